/- That the machine computes these: walks, printed by a program of ours. -/
import Derived.Test.YthdoklobbcedcabPx
import Derived.Test.YthdoklobbcedcabWx2
set_option linter.unusedVariables false
set_option linter.unusedSimpArgs false
namespace Go.Cen
set_option maxRecDepth 100000 in
set_option maxHeartbeats 4000000 in
/-- cenotaph/cenotaphref05.Valid -/
theorem c98 (w0 w : World) (Z : Hp) (A : HP) (hI : Inv w0 Z w A) (a0 : ApiEvent) (hl1 : a0.Sum.length = 32) (r : Bool) (h0 : ref05_Valid a0 = some r) :
    Calls prog 98 #[.agg (c_ApiEvent a0).toArray] w (fun e w' => e = .returned (.bool r) ∧ Inv w0 Z w' A) := by
  have e4 := calls_intro (R := (fun e w' => e = .returned (.bool r) ∧ Inv w0 Z w' A)) (w := w) (args := [.agg (c_ApiEvent a0).toArray]) (fn := Go.Proofs.Try.f98) 131 Go.Proofs.Try.func98 (by rfl) Go.Proofs.Try.ntmps98 (by kernel_rfl)
  refine e4 ?_
  clear e4
  unfold ref05_Valid at h0
  refine CodT.seq ?_
  refine CodT.regionL [0, 1] (by kernel_rfl) ?_
  refine OpsT.cons (Does.boxL (d := 1) (T := 65) (v := .agg (c_ApiEvent a0).toArray) (c_ApiEvent a0) (by kernel_rfl) hI (by kernel_rfl) ?_)
  intro b2 w hI
  refine OpsT.pures (r := []) [1] [1] (S' := [(1, .pointer (some ⟨b2, 0, none⟩))]) (by kernel_rfl) ?_
  refine OpsT.done ?_
  refine Qn.then ?_
  refine CodT.seq ?_
  obtain ⟨r1, h1, h0⟩ := bindS h0
  refine CodT.meet (fun a w => ∃ (x3 : Bool), x3 = r1 ∧ Fr 131 [(1, .pointer (some ⟨b2, 0, none⟩)), (18, .bool x3)] a ∧ Inv w0 Z w (star (pt b2 (.cells (c_ApiEvent a0).toArray 65 (0, 0))) A)) ?_ ?_
  ·
    refine CodT.regionL [0, 1, 2, 3, 4, 5, 6, 7] (by kernel_rfl) ?_
    refine OpsT.pures (r := [1, 2, 3, 4, 5, 6, 7]) [0] [1, 11] (S' := [(1, .pointer (some ⟨b2, 0, none⟩)), (11, .pointer (some ⟨b2, 0, none⟩))]) (by kernel_rfl) ?_
    refine OpsT.cons (Does.yi (Yl.load (d := 12) (T := 63) (v := .int .i64 a0.Kind) (by kernel_rfl) (ldB ty63 (l := c_ApiEvent a0) (o := 0) (v := .int .i64 a0.Kind) (ent_refl _) (by kernel_rfl))) hI ?_)
    refine OpsT.pures (r := [4, 5, 6, 7]) [2, 3] [1, 14] (S' := [(1, .pointer (some ⟨b2, 0, none⟩)), (14, .bool (decide (a0.Kind < 0)))]) (by kernel_rfl) ?_
    by_cases hb4 : (decide (a0.Kind < 0)) = true
    · rw [if_pos hb4] at h1
      refine OpsT.keep [1, 14] (S' := [(1, .pointer (some ⟨b2, 0, none⟩)), (14, .bool true)]) (by (try simp only [hb4]); kernel_rfl) ?_
      refine OpsT.pures (r := []) [4, 5, 6, 7] [1, 18] (S' := [(1, .pointer (some ⟨b2, 0, none⟩)), (18, .bool true)]) (by kernel_rfl) ?_
      refine OpsT.done ?_
      have e := someS h1
      subst e
      exact Qn.thenJ fun a ha => ⟨true, rfl, ha.keep [1, 18] (by kernel_rfl), hI⟩
    · rw [if_neg hb4] at h1
      have hb4 : (decide (a0.Kind < 0)) = false := by simpa using hb4
      refine OpsT.keep [1, 14] (S' := [(1, .pointer (some ⟨b2, 0, none⟩)), (14, .bool false)]) (by (try simp only [hb4]); kernel_rfl) ?_
      refine OpsT.pures (r := [5, 6, 7]) [4] [1, 14, 15] (S' := [(1, .pointer (some ⟨b2, 0, none⟩)), (14, .bool false), (15, .pointer (some ⟨b2, 0, none⟩))]) (by kernel_rfl) ?_
      refine OpsT.cons (Does.yi (Yl.load (d := 16) (T := 63) (v := .int .i64 a0.Kind) (by kernel_rfl) (ldB ty63 (l := c_ApiEvent a0) (o := 0) (v := .int .i64 a0.Kind) (ent_refl _) (by kernel_rfl))) hI ?_)
      refine OpsT.pures (r := []) [6, 7] [1, 18] (S' := [(1, .pointer (some ⟨b2, 0, none⟩)), (18, .bool (decide (a0.Kind > 7)))]) (by kernel_rfl) ?_
      refine OpsT.done ?_
      have e := someS h1
      subst e
      exact Qn.thenJ fun a ha => ⟨decide (a0.Kind > 7), rfl, ha.keep [1, 18] (by kernel_rfl), hI⟩
  ·
    rintro a w ⟨x3, rfl, ha, hI⟩
    try dsimp only at h0
    refine CodT.of ?_ ha
    by_cases hb5 : x3 = true
    · rw [if_pos hb5] at h0
      refine CodT.yes' (b := x3) (by kernel_rfl) hb5 ?_
      refine CodT.seq ?_
      refine CodT.regionL [0] (by kernel_rfl) ?_
      refine OpsT.pures (r := []) [0] [2] (S' := [(2, .bool false)]) (by kernel_rfl) ?_
      refine OpsT.done ?_
      refine Qn.then ?_
      refine CodT.ret ?_
      refine Qn.ret_then ?_
      have hI := hI.drop
      have e := someS h0
      subst e
      refine Qn.keep [2] (S' := [(2, .bool false)]) (by kernel_rfl) ?_
      exact post_ret (v := .bool false) (fun a ha => RunRes.run (vs := [.bool false]) (.tmp (t := 2) (by kernel_rfl) .nil) ha (by kernel_rfl)) ⟨rfl, hI⟩
    · rw [if_neg hb5] at h0
      refine CodT.no' (b := x3) (by kernel_rfl) (by simpa using hb5) ?_
      refine CodT.skip ?_
      refine Qn.then ?_
      refine CodT.seq ?_
      refine CodT.regionL [0, 1, 2, 3, 4] (by kernel_rfl) ?_
      refine OpsT.pures (r := [1, 2, 3, 4]) [0] [1, 19] (S' := [(1, .pointer (some ⟨b2, 0, none⟩)), (19, .pointer (some ⟨b2, 0, none⟩))]) (by kernel_rfl) ?_
      refine OpsT.cons (Does.yi (Yl.load (d := 20) (T := 63) (v := .int .i64 a0.Kind) (by kernel_rfl) (ldB ty63 (l := c_ApiEvent a0) (o := 0) (v := .int .i64 a0.Kind) (ent_refl _) (by kernel_rfl))) hI ?_)
      obtain ⟨y7, hc6, h0⟩ := bindS h0
      try dsimp only at h0
      refine OpsT.cons (Does.call (d := some 21) (n := 99) (vs := [.int .i64 a0.Kind]) (by kernel_rfl) en99 (c99 w0 w _ _ hI a0.Kind _ hc6) ?_)
      rintro e w ⟨rfl, hl8, hI⟩
      refine ⟨_, rfl, ?_⟩
      refine OpsT.cons (Does.allocL (d := 3) (T := 144) (cA Value.bool (List.replicate 5 (false : Bool))) (by kernel_rfl) ty144 hI (by kernel_rfl) ?_)
      intro b9 w hI
      refine OpsT.cons (Does.storeAll (T := 144) (b := b9) (n := 5) (xs := (List.replicate 5 (false : Bool))) (ys := y7) (by kernel_rfl) ty144 hI (fun _ => rfl) (by kernel_rfl) hl8 ?_)
      intro w hI
      refine OpsT.done ?_
      refine Qn.then ?_
      refine CodT.seq ?_
      refine CodT.regionL [0] (by kernel_rfl) ?_
      refine OpsT.pures (r := []) [0] [1, 3, 4] (S' := [(1, .pointer (some ⟨b2, 0, none⟩)), (3, .pointer (some ⟨b9, 0, none⟩)), (4, .int .i64 0)]) (by kernel_rfl) ?_
      refine OpsT.done ?_
      refine Qn.then ?_
      obtain ⟨r1, h1, h0⟩ := bindS h0
      refine CodT.meet (fun a w => ∃ (x10 : Int), x10 = r1 ∧ Fr 131 [(1, .pointer (some ⟨b2, 0, none⟩)), (3, .pointer (some ⟨b9, 0, none⟩)), (4, .int .i64 x10)] a ∧ Inv w0 Z w (star (pt b9 (.cells (cA Value.bool y7).toArray 144 (0, 0))) (star (pt b2 (.cells (c_ApiEvent a0).toArray 65 (0, 0))) A))) ?_ ?_
      ·
        refine CodT.seq ?_
        refine CodT.regionL [0, 1, 2] (by kernel_rfl) ?_
        refine OpsT.pures (r := [1, 2]) [0] [1, 3, 4, 22] (S' := [(1, .pointer (some ⟨b2, 0, none⟩)), (3, .pointer (some ⟨b9, 0, none⟩)), (4, .int .i64 0), (22, .pointer (some ⟨b2, 0, none⟩))]) (by kernel_rfl) ?_
        refine OpsT.cons (Does.yi (Yl.load (d := 23) (T := 63) (v := .int .i64 a0.Kind) (by kernel_rfl) (ldB ty63 (l := c_ApiEvent a0) (o := 0) (v := .int .i64 a0.Kind) (pick2 _ _ _) (by kernel_rfl))) hI ?_)
        refine OpsT.pures (r := []) [2] [1, 3, 4, 24] (S' := [(1, .pointer (some ⟨b2, 0, none⟩)), (3, .pointer (some ⟨b9, 0, none⟩)), (4, .int .i64 0), (24, .bool (a0.Kind == 1))]) (by kernel_rfl) ?_
        refine OpsT.done ?_
        refine Qn.then ?_
        by_cases hb11 : (a0.Kind == 1) = true
        · rw [if_pos hb11] at h1
          refine CodT.yes' (b := a0.Kind == 1) (by kernel_rfl) hb11 ?_
          refine CodT.regionL [0] (by kernel_rfl) ?_
          refine OpsT.pures (r := []) [0] [1, 3, 4] (S' := [(1, .pointer (some ⟨b2, 0, none⟩)), (3, .pointer (some ⟨b9, 0, none⟩)), (4, .int .i64 1)]) (by kernel_rfl) ?_
          refine OpsT.done ?_
          have e := someS h1
          subst e
          exact Qn.thenJ fun a ha => ⟨1, rfl, ha.keep [1, 3, 4] (by kernel_rfl), hI⟩
        · rw [if_neg hb11] at h1
          refine CodT.no' (b := a0.Kind == 1) (by kernel_rfl) (by simpa using hb11) ?_
          refine CodT.skip ?_
          have e := someS h1
          subst e
          exact Qn.thenJ fun a ha => ⟨0, rfl, ha.keep [1, 3, 4] (by kernel_rfl), hI⟩
      ·
        rintro a w ⟨x10, rfl, ha, hI⟩
        try dsimp only at h0
        refine CodT.of ?_ ha
        refine CodT.seq ?_
        refine CodT.regionL [0, 1, 2, 3] (by kernel_rfl) ?_
        refine OpsT.pures (r := [1, 2, 3]) [0] [1, 3, 4, 25] (S' := [(1, .pointer (some ⟨b2, 0, none⟩)), (3, .pointer (some ⟨b9, 0, none⟩)), (4, .int .i64 x10), (25, .pointer (some ⟨b2, 2, none⟩))]) (by kernel_rfl) ?_
        refine OpsT.cons (Does.yi (Yl.load (d := 26) (T := 9) (v := .string a0.Name) (by kernel_rfl) (ldB ty9 (l := c_ApiEvent a0) (o := 2) (v := .string a0.Name) (pick2 _ _ _) (by kernel_rfl))) hI ?_)
        obtain ⟨y13, hc12, h0⟩ := bindS h0
        try dsimp only at h0
        refine OpsT.cons (Does.call (d := some 27) (n := 120) (vs := [.string a0.Name]) (by kernel_rfl) en120 (c120 w0 w _ _ hI a0.Name _ hc12) ?_)
        rintro e w ⟨rfl, hI⟩
        refine ⟨_, rfl, ?_⟩
        refine OpsT.pures (r := []) [3] [1, 3, 4, 5] (S' := [(1, .pointer (some ⟨b2, 0, none⟩)), (3, .pointer (some ⟨b9, 0, none⟩)), (4, .int .i64 x10), (5, .bool y13)]) (by kernel_rfl) ?_
        refine OpsT.done ?_
        refine Qn.then ?_
        obtain ⟨r1, h1, h0⟩ := bindS h0
        refine CodT.meet (fun a w => ∃ (x14 : Bool), x14 = r1 ∧ Fr 131 [(1, .pointer (some ⟨b2, 0, none⟩)), (3, .pointer (some ⟨b9, 0, none⟩)), (4, .int .i64 x10), (5, .bool y13), (6, .bool x14)] a ∧ Inv w0 Z w (star (pt b9 (.cells (cA Value.bool y7).toArray 144 (0, 0))) (star (pt b2 (.cells (c_ApiEvent a0).toArray 65 (0, 0))) A))) ?_ ?_
        ·
          refine CodT.regionL [0, 1, 2, 3, 4, 5, 6, 7, 8, 9, 10, 11, 12, 13, 14, 15, 16, 17, 18, 19, 20, 21, 22] (by kernel_rfl) ?_
          refine OpsT.pures (r := [1, 2, 3, 4, 5, 6, 7, 8, 9, 10, 11, 12, 13, 14, 15, 16, 17, 18, 19, 20, 21, 22]) [0] [1, 3, 4, 5, 28] (S' := [(1, .pointer (some ⟨b2, 0, none⟩)), (3, .pointer (some ⟨b9, 0, none⟩)), (4, .int .i64 x10), (5, .bool y13), (28, .pointer (some ⟨b9, 0, none⟩))]) (by kernel_rfl) ?_
          refine OpsT.cons (Does.yi (Yl.load (d := 29) (T := 4) (v := .bool (gt y7 0)) (by kernel_rfl) (ldB ty4 (l := cA Value.bool y7) (o := 0) (v := .bool (gt y7 0)) (ent_refl _) (arr_getC _ _ 0 hl8 (by kernel_rfl)))) hI ?_)
          refine OpsT.pures (r := [3, 4, 5, 6, 7, 8, 9, 10, 11, 12, 13, 14, 15, 16, 17, 18, 19, 20, 21, 22]) [2] [1, 3, 4, 5, 30] (S' := [(1, .pointer (some ⟨b2, 0, none⟩)), (3, .pointer (some ⟨b9, 0, none⟩)), (4, .int .i64 x10), (5, .bool y13), (30, .bool (gt y7 0))]) (by kernel_rfl) ?_
          by_cases hb15 : (gt y7 0) = true
          · rw [if_pos hb15] at h1
            refine OpsT.keep [1, 3, 4, 5, 30] (S' := [(1, .pointer (some ⟨b2, 0, none⟩)), (3, .pointer (some ⟨b9, 0, none⟩)), (4, .int .i64 x10), (5, .bool y13), (30, .bool true)]) (by (try simp only [hb15]); kernel_rfl) ?_
            refine OpsT.pures (r := [4, 5, 6, 7, 8, 9, 10, 11, 12, 13, 14, 15, 16, 17, 18, 19, 20, 21, 22]) [3] [1, 3, 4, 5, 30, 31] (S' := [(1, .pointer (some ⟨b2, 0, none⟩)), (3, .pointer (some ⟨b9, 0, none⟩)), (4, .int .i64 x10), (5, .bool y13), (30, .bool true), (31, .pointer (some ⟨b2, 1, none⟩))]) (by kernel_rfl) ?_
            refine OpsT.cons (Does.yi (Yl.load (d := 32) (T := 3) (v := .int .i64 a0.ID) (by kernel_rfl) (ldB ty3 (l := c_ApiEvent a0) (o := 1) (v := .int .i64 a0.ID) (pick2 _ _ _) (by kernel_rfl))) hI ?_)
            refine OpsT.pures (r := [8, 9, 10, 11, 12, 13, 14, 15, 16, 17, 18, 19, 20, 21, 22]) [5, 6, 7] [1, 3, 4, 5, 35] (S' := [(1, .pointer (some ⟨b2, 0, none⟩)), (3, .pointer (some ⟨b9, 0, none⟩)), (4, .int .i64 x10), (5, .bool y13), (35, .bool (decide (a0.ID ≥ 1)))]) (by kernel_rfl) ?_
            by_cases hb16 : (decide (a0.ID ≥ 1)) = true
            · rw [if_pos hb16] at h1
              refine OpsT.keep [1, 3, 4, 5, 35] (S' := [(1, .pointer (some ⟨b2, 0, none⟩)), (3, .pointer (some ⟨b9, 0, none⟩)), (4, .int .i64 x10), (5, .bool y13), (35, .bool true)]) (by (try simp only [hb16]); kernel_rfl) ?_
              refine OpsT.pures (r := [9, 10, 11, 12, 13, 14, 15, 16, 17, 18, 19, 20, 21, 22]) [8] [1, 3, 4, 5, 35, 36] (S' := [(1, .pointer (some ⟨b2, 0, none⟩)), (3, .pointer (some ⟨b9, 0, none⟩)), (4, .int .i64 x10), (5, .bool y13), (35, .bool true), (36, .pointer (some ⟨b2, 1, none⟩))]) (by kernel_rfl) ?_
              refine OpsT.cons (Does.yi (Yl.load (d := 37) (T := 3) (v := .int .i64 a0.ID) (by kernel_rfl) (ldB ty3 (l := c_ApiEvent a0) (o := 1) (v := .int .i64 a0.ID) (pick2 _ _ _) (by kernel_rfl))) hI ?_)
              refine OpsT.pures (r := [13, 14, 15, 16, 17, 18, 19, 20, 21, 22]) [10, 11, 12] [1, 3, 4, 5, 40] (S' := [(1, .pointer (some ⟨b2, 0, none⟩)), (3, .pointer (some ⟨b9, 0, none⟩)), (4, .int .i64 x10), (5, .bool y13), (40, .bool (decide (a0.ID ≤ 1099511627776)))]) (by kernel_rfl) ?_
              by_cases hb17 : (decide (a0.ID ≤ 1099511627776)) = true
              · rw [if_pos hb17] at h1
                refine OpsT.keep [1, 3, 4, 5, 40] (S' := [(1, .pointer (some ⟨b2, 0, none⟩)), (3, .pointer (some ⟨b9, 0, none⟩)), (4, .int .i64 x10), (5, .bool y13), (40, .bool true)]) (by (try simp only [hb17]); kernel_rfl) ?_
                refine OpsT.pures (r := []) [13, 14, 15, 16, 17, 18, 19, 20, 21, 22] [1, 3, 4, 5, 6] (S' := [(1, .pointer (some ⟨b2, 0, none⟩)), (3, .pointer (some ⟨b9, 0, none⟩)), (4, .int .i64 x10), (5, .bool y13), (6, .bool true)]) (by kernel_rfl) ?_
                refine OpsT.done ?_
                have e := someS h1
                subst e
                exact Qn.thenJ fun a ha => ⟨true, rfl, ha.keep [1, 3, 4, 5, 6] (by kernel_rfl), hI⟩
              · rw [if_neg hb17] at h1
                have hb17 : (decide (a0.ID ≤ 1099511627776)) = false := by simpa using hb17
                refine OpsT.keep [1, 3, 4, 5, 40] (S' := [(1, .pointer (some ⟨b2, 0, none⟩)), (3, .pointer (some ⟨b9, 0, none⟩)), (4, .int .i64 x10), (5, .bool y13), (40, .bool false)]) (by (try simp only [hb17]); kernel_rfl) ?_
                refine OpsT.pures (r := [14, 15, 16, 17, 18, 19, 20, 21, 22]) [13] [1, 3, 4, 5, 40, 41] (S' := [(1, .pointer (some ⟨b2, 0, none⟩)), (3, .pointer (some ⟨b9, 0, none⟩)), (4, .int .i64 x10), (5, .bool y13), (40, .bool false), (41, .pointer (some ⟨b9, 0, none⟩))]) (by kernel_rfl) ?_
                refine OpsT.cons (Does.yi (Yl.load (d := 42) (T := 4) (v := .bool (gt y7 0)) (by kernel_rfl) (ldB ty4 (l := cA Value.bool y7) (o := 0) (v := .bool (gt y7 0)) (ent_refl _) (arr_getC _ _ 0 hl8 (by kernel_rfl)))) hI ?_)
                refine OpsT.pures (r := [17, 18, 19, 20, 21, 22]) [15, 16] [1, 3, 4, 5, 40, 44] (S' := [(1, .pointer (some ⟨b2, 0, none⟩)), (3, .pointer (some ⟨b9, 0, none⟩)), (4, .int .i64 x10), (5, .bool y13), (40, .bool false), (44, .bool (!(gt y7 0)))]) (by kernel_rfl) ?_
                by_cases hb18 : (!(gt y7 0)) = true
                · rw [if_pos hb18] at h1
                  refine OpsT.keep [1, 3, 4, 5, 40, 44] (S' := [(1, .pointer (some ⟨b2, 0, none⟩)), (3, .pointer (some ⟨b9, 0, none⟩)), (4, .int .i64 x10), (5, .bool y13), (40, .bool false), (44, .bool true)]) (by (try simp only [hb18]); kernel_rfl) ?_
                  refine OpsT.pures (r := [18, 19, 20, 21, 22]) [17] [1, 3, 4, 5, 40, 44, 45] (S' := [(1, .pointer (some ⟨b2, 0, none⟩)), (3, .pointer (some ⟨b9, 0, none⟩)), (4, .int .i64 x10), (5, .bool y13), (40, .bool false), (44, .bool true), (45, .pointer (some ⟨b2, 1, none⟩))]) (by kernel_rfl) ?_
                  refine OpsT.cons (Does.yi (Yl.load (d := 46) (T := 3) (v := .int .i64 a0.ID) (by kernel_rfl) (ldB ty3 (l := c_ApiEvent a0) (o := 1) (v := .int .i64 a0.ID) (pick2 _ _ _) (by kernel_rfl))) hI ?_)
                  refine OpsT.pures (r := []) [19, 20, 21, 22] [1, 3, 4, 5, 6] (S' := [(1, .pointer (some ⟨b2, 0, none⟩)), (3, .pointer (some ⟨b9, 0, none⟩)), (4, .int .i64 x10), (5, .bool y13), (6, .bool (a0.ID == 0))]) (by kernel_rfl) ?_
                  refine OpsT.done ?_
                  have e := someS h1
                  subst e
                  exact Qn.thenJ fun a ha => ⟨a0.ID == 0, rfl, ha.keep [1, 3, 4, 5, 6] (by kernel_rfl), hI⟩
                · rw [if_neg hb18] at h1
                  have hb18 : (!(gt y7 0)) = false := by simpa using hb18
                  refine OpsT.keep [1, 3, 4, 5, 40, 44] (S' := [(1, .pointer (some ⟨b2, 0, none⟩)), (3, .pointer (some ⟨b9, 0, none⟩)), (4, .int .i64 x10), (5, .bool y13), (40, .bool false), (44, .bool false)]) (by (try simp only [hb18]); kernel_rfl) ?_
                  refine OpsT.pures (r := []) [17, 18, 19, 20, 21, 22] [1, 3, 4, 5, 6] (S' := [(1, .pointer (some ⟨b2, 0, none⟩)), (3, .pointer (some ⟨b9, 0, none⟩)), (4, .int .i64 x10), (5, .bool y13), (6, .bool false)]) (by kernel_rfl) ?_
                  refine OpsT.done ?_
                  have e := someS h1
                  subst e
                  exact Qn.thenJ fun a ha => ⟨false, rfl, ha.keep [1, 3, 4, 5, 6] (by kernel_rfl), hI⟩
            · rw [if_neg hb16] at h1
              have hb16 : (decide (a0.ID ≥ 1)) = false := by simpa using hb16
              refine OpsT.keep [1, 3, 4, 5, 35] (S' := [(1, .pointer (some ⟨b2, 0, none⟩)), (3, .pointer (some ⟨b9, 0, none⟩)), (4, .int .i64 x10), (5, .bool y13), (35, .bool false)]) (by (try simp only [hb16]); kernel_rfl) ?_
              refine OpsT.pures (r := [14, 15, 16, 17, 18, 19, 20, 21, 22]) [8, 9, 10, 11, 12, 13] [1, 3, 4, 5, 40, 41] (S' := [(1, .pointer (some ⟨b2, 0, none⟩)), (3, .pointer (some ⟨b9, 0, none⟩)), (4, .int .i64 x10), (5, .bool y13), (40, .bool false), (41, .pointer (some ⟨b9, 0, none⟩))]) (by kernel_rfl) ?_
              refine OpsT.cons (Does.yi (Yl.load (d := 42) (T := 4) (v := .bool (gt y7 0)) (by kernel_rfl) (ldB ty4 (l := cA Value.bool y7) (o := 0) (v := .bool (gt y7 0)) (ent_refl _) (arr_getC _ _ 0 hl8 (by kernel_rfl)))) hI ?_)
              refine OpsT.pures (r := [17, 18, 19, 20, 21, 22]) [15, 16] [1, 3, 4, 5, 40, 44] (S' := [(1, .pointer (some ⟨b2, 0, none⟩)), (3, .pointer (some ⟨b9, 0, none⟩)), (4, .int .i64 x10), (5, .bool y13), (40, .bool false), (44, .bool (!(gt y7 0)))]) (by kernel_rfl) ?_
              by_cases hb19 : (!(gt y7 0)) = true
              · rw [if_pos hb19] at h1
                refine OpsT.keep [1, 3, 4, 5, 40, 44] (S' := [(1, .pointer (some ⟨b2, 0, none⟩)), (3, .pointer (some ⟨b9, 0, none⟩)), (4, .int .i64 x10), (5, .bool y13), (40, .bool false), (44, .bool true)]) (by (try simp only [hb19]); kernel_rfl) ?_
                refine OpsT.pures (r := [18, 19, 20, 21, 22]) [17] [1, 3, 4, 5, 40, 44, 45] (S' := [(1, .pointer (some ⟨b2, 0, none⟩)), (3, .pointer (some ⟨b9, 0, none⟩)), (4, .int .i64 x10), (5, .bool y13), (40, .bool false), (44, .bool true), (45, .pointer (some ⟨b2, 1, none⟩))]) (by kernel_rfl) ?_
                refine OpsT.cons (Does.yi (Yl.load (d := 46) (T := 3) (v := .int .i64 a0.ID) (by kernel_rfl) (ldB ty3 (l := c_ApiEvent a0) (o := 1) (v := .int .i64 a0.ID) (pick2 _ _ _) (by kernel_rfl))) hI ?_)
                refine OpsT.pures (r := []) [19, 20, 21, 22] [1, 3, 4, 5, 6] (S' := [(1, .pointer (some ⟨b2, 0, none⟩)), (3, .pointer (some ⟨b9, 0, none⟩)), (4, .int .i64 x10), (5, .bool y13), (6, .bool (a0.ID == 0))]) (by kernel_rfl) ?_
                refine OpsT.done ?_
                have e := someS h1
                subst e
                exact Qn.thenJ fun a ha => ⟨a0.ID == 0, rfl, ha.keep [1, 3, 4, 5, 6] (by kernel_rfl), hI⟩
              · rw [if_neg hb19] at h1
                have hb19 : (!(gt y7 0)) = false := by simpa using hb19
                refine OpsT.keep [1, 3, 4, 5, 40, 44] (S' := [(1, .pointer (some ⟨b2, 0, none⟩)), (3, .pointer (some ⟨b9, 0, none⟩)), (4, .int .i64 x10), (5, .bool y13), (40, .bool false), (44, .bool false)]) (by (try simp only [hb19]); kernel_rfl) ?_
                refine OpsT.pures (r := []) [17, 18, 19, 20, 21, 22] [1, 3, 4, 5, 6] (S' := [(1, .pointer (some ⟨b2, 0, none⟩)), (3, .pointer (some ⟨b9, 0, none⟩)), (4, .int .i64 x10), (5, .bool y13), (6, .bool false)]) (by kernel_rfl) ?_
                refine OpsT.done ?_
                have e := someS h1
                subst e
                exact Qn.thenJ fun a ha => ⟨false, rfl, ha.keep [1, 3, 4, 5, 6] (by kernel_rfl), hI⟩
          · rw [if_neg hb15] at h1
            have hb15 : (gt y7 0) = false := by simpa using hb15
            refine OpsT.keep [1, 3, 4, 5, 30] (S' := [(1, .pointer (some ⟨b2, 0, none⟩)), (3, .pointer (some ⟨b9, 0, none⟩)), (4, .int .i64 x10), (5, .bool y13), (30, .bool false)]) (by (try simp only [hb15]); kernel_rfl) ?_
            refine OpsT.pures (r := [14, 15, 16, 17, 18, 19, 20, 21, 22]) [3, 4, 5, 6, 7, 8, 9, 10, 11, 12, 13] [1, 3, 4, 5, 40, 41] (S' := [(1, .pointer (some ⟨b2, 0, none⟩)), (3, .pointer (some ⟨b9, 0, none⟩)), (4, .int .i64 x10), (5, .bool y13), (40, .bool false), (41, .pointer (some ⟨b9, 0, none⟩))]) (by kernel_rfl) ?_
            refine OpsT.cons (Does.yi (Yl.load (d := 42) (T := 4) (v := .bool (gt y7 0)) (by kernel_rfl) (ldB ty4 (l := cA Value.bool y7) (o := 0) (v := .bool (gt y7 0)) (ent_refl _) (arr_getC _ _ 0 hl8 (by kernel_rfl)))) hI ?_)
            refine OpsT.pures (r := [17, 18, 19, 20, 21, 22]) [15, 16] [1, 3, 4, 5, 40, 44] (S' := [(1, .pointer (some ⟨b2, 0, none⟩)), (3, .pointer (some ⟨b9, 0, none⟩)), (4, .int .i64 x10), (5, .bool y13), (40, .bool false), (44, .bool (!(gt y7 0)))]) (by kernel_rfl) ?_
            by_cases hb20 : (!(gt y7 0)) = true
            · rw [if_pos hb20] at h1
              refine OpsT.keep [1, 3, 4, 5, 40, 44] (S' := [(1, .pointer (some ⟨b2, 0, none⟩)), (3, .pointer (some ⟨b9, 0, none⟩)), (4, .int .i64 x10), (5, .bool y13), (40, .bool false), (44, .bool true)]) (by (try simp only [hb20]); kernel_rfl) ?_
              refine OpsT.pures (r := [18, 19, 20, 21, 22]) [17] [1, 3, 4, 5, 40, 44, 45] (S' := [(1, .pointer (some ⟨b2, 0, none⟩)), (3, .pointer (some ⟨b9, 0, none⟩)), (4, .int .i64 x10), (5, .bool y13), (40, .bool false), (44, .bool true), (45, .pointer (some ⟨b2, 1, none⟩))]) (by kernel_rfl) ?_
              refine OpsT.cons (Does.yi (Yl.load (d := 46) (T := 3) (v := .int .i64 a0.ID) (by kernel_rfl) (ldB ty3 (l := c_ApiEvent a0) (o := 1) (v := .int .i64 a0.ID) (pick2 _ _ _) (by kernel_rfl))) hI ?_)
              refine OpsT.pures (r := []) [19, 20, 21, 22] [1, 3, 4, 5, 6] (S' := [(1, .pointer (some ⟨b2, 0, none⟩)), (3, .pointer (some ⟨b9, 0, none⟩)), (4, .int .i64 x10), (5, .bool y13), (6, .bool (a0.ID == 0))]) (by kernel_rfl) ?_
              refine OpsT.done ?_
              have e := someS h1
              subst e
              exact Qn.thenJ fun a ha => ⟨a0.ID == 0, rfl, ha.keep [1, 3, 4, 5, 6] (by kernel_rfl), hI⟩
            · rw [if_neg hb20] at h1
              have hb20 : (!(gt y7 0)) = false := by simpa using hb20
              refine OpsT.keep [1, 3, 4, 5, 40, 44] (S' := [(1, .pointer (some ⟨b2, 0, none⟩)), (3, .pointer (some ⟨b9, 0, none⟩)), (4, .int .i64 x10), (5, .bool y13), (40, .bool false), (44, .bool false)]) (by (try simp only [hb20]); kernel_rfl) ?_
              refine OpsT.pures (r := []) [17, 18, 19, 20, 21, 22] [1, 3, 4, 5, 6] (S' := [(1, .pointer (some ⟨b2, 0, none⟩)), (3, .pointer (some ⟨b9, 0, none⟩)), (4, .int .i64 x10), (5, .bool y13), (6, .bool false)]) (by kernel_rfl) ?_
              refine OpsT.done ?_
              have e := someS h1
              subst e
              exact Qn.thenJ fun a ha => ⟨false, rfl, ha.keep [1, 3, 4, 5, 6] (by kernel_rfl), hI⟩
        ·
          rintro a w ⟨x14, rfl, ha, hI⟩
          try dsimp only at h0
          refine CodT.of ?_ ha
          obtain ⟨r1, h1, h0⟩ := bindS h0
          refine CodT.meet (fun a w => ∃ (x21 : Bool), x21 = r1 ∧ Fr 131 [(1, .pointer (some ⟨b2, 0, none⟩)), (3, .pointer (some ⟨b9, 0, none⟩)), (4, .int .i64 x10), (6, .bool x14), (7, .bool x21)] a ∧ Inv w0 Z w (star (pt b9 (.cells (cA Value.bool y7).toArray 144 (0, 0))) (star (pt b2 (.cells (c_ApiEvent a0).toArray 65 (0, 0))) A))) ?_ ?_
          ·
            refine CodT.regionL [0, 1, 2, 3, 4, 5, 6, 7, 8, 9, 10, 11, 12, 13, 14, 15] (by kernel_rfl) ?_
            refine OpsT.pures (r := [1, 2, 3, 4, 5, 6, 7, 8, 9, 10, 11, 12, 13, 14, 15]) [0] [1, 3, 4, 5, 6, 50] (S' := [(1, .pointer (some ⟨b2, 0, none⟩)), (3, .pointer (some ⟨b9, 0, none⟩)), (4, .int .i64 x10), (5, .bool y13), (6, .bool x14), (50, .pointer (some ⟨b9, 1, none⟩))]) (by kernel_rfl) ?_
            refine OpsT.cons (Does.yi (Yl.load (d := 51) (T := 4) (v := .bool (gt y7 1)) (by kernel_rfl) (ldB ty4 (l := cA Value.bool y7) (o := 1) (v := .bool (gt y7 1)) (ent_refl _) (arr_getC _ _ 1 hl8 (by kernel_rfl)))) hI ?_)
            refine OpsT.pures (r := [3, 4, 5, 6, 7, 8, 9, 10, 11, 12, 13, 14, 15]) [2] [1, 3, 4, 5, 6, 52] (S' := [(1, .pointer (some ⟨b2, 0, none⟩)), (3, .pointer (some ⟨b9, 0, none⟩)), (4, .int .i64 x10), (5, .bool y13), (6, .bool x14), (52, .bool (gt y7 1))]) (by kernel_rfl) ?_
            by_cases hb22 : (gt y7 1) = true
            · rw [if_pos hb22] at h1
              refine OpsT.keep [1, 3, 4, 5, 6, 52] (S' := [(1, .pointer (some ⟨b2, 0, none⟩)), (3, .pointer (some ⟨b9, 0, none⟩)), (4, .int .i64 x10), (5, .bool y13), (6, .bool x14), (52, .bool true)]) (by (try simp only [hb22]); kernel_rfl) ?_
              refine OpsT.pures (r := [6, 7, 8, 9, 10, 11, 12, 13, 14, 15]) [3, 4, 5] [1, 3, 4, 6, 55] (S' := [(1, .pointer (some ⟨b2, 0, none⟩)), (3, .pointer (some ⟨b9, 0, none⟩)), (4, .int .i64 x10), (6, .bool x14), (55, .bool y13)]) (by kernel_rfl) ?_
              by_cases hb23 : y13 = true
              · rw [if_pos hb23] at h1
                refine OpsT.keep [1, 3, 4, 6, 55] (S' := [(1, .pointer (some ⟨b2, 0, none⟩)), (3, .pointer (some ⟨b9, 0, none⟩)), (4, .int .i64 x10), (6, .bool x14), (55, .bool true)]) (by (try simp only [hb23]); kernel_rfl) ?_
                refine OpsT.pures (r := []) [6, 7, 8, 9, 10, 11, 12, 13, 14, 15] [1, 3, 4, 6, 7] (S' := [(1, .pointer (some ⟨b2, 0, none⟩)), (3, .pointer (some ⟨b9, 0, none⟩)), (4, .int .i64 x10), (6, .bool x14), (7, .bool true)]) (by kernel_rfl) ?_
                refine OpsT.done ?_
                have e := someS h1
                subst e
                exact Qn.thenJ fun a ha => ⟨true, rfl, ha.keep [1, 3, 4, 6, 7] (by kernel_rfl), hI⟩
              · rw [if_neg hb23] at h1
                have hb23 : y13 = false := by simpa using hb23
                refine OpsT.keep [1, 3, 4, 6, 55] (S' := [(1, .pointer (some ⟨b2, 0, none⟩)), (3, .pointer (some ⟨b9, 0, none⟩)), (4, .int .i64 x10), (6, .bool x14), (55, .bool false)]) (by (try simp only [hb23]); kernel_rfl) ?_
                refine OpsT.pures (r := [7, 8, 9, 10, 11, 12, 13, 14, 15]) [6] [1, 3, 4, 6, 55, 56] (S' := [(1, .pointer (some ⟨b2, 0, none⟩)), (3, .pointer (some ⟨b9, 0, none⟩)), (4, .int .i64 x10), (6, .bool x14), (55, .bool false), (56, .pointer (some ⟨b9, 1, none⟩))]) (by kernel_rfl) ?_
                refine OpsT.cons (Does.yi (Yl.load (d := 57) (T := 4) (v := .bool (gt y7 1)) (by kernel_rfl) (ldB ty4 (l := cA Value.bool y7) (o := 1) (v := .bool (gt y7 1)) (ent_refl _) (arr_getC _ _ 1 hl8 (by kernel_rfl)))) hI ?_)
                refine OpsT.pures (r := [10, 11, 12, 13, 14, 15]) [8, 9] [1, 3, 4, 6, 55, 59] (S' := [(1, .pointer (some ⟨b2, 0, none⟩)), (3, .pointer (some ⟨b9, 0, none⟩)), (4, .int .i64 x10), (6, .bool x14), (55, .bool false), (59, .bool (!(gt y7 1)))]) (by kernel_rfl) ?_
                by_cases hb24 : (!(gt y7 1)) = true
                · rw [if_pos hb24] at h1
                  refine OpsT.keep [1, 3, 4, 6, 55, 59] (S' := [(1, .pointer (some ⟨b2, 0, none⟩)), (3, .pointer (some ⟨b9, 0, none⟩)), (4, .int .i64 x10), (6, .bool x14), (55, .bool false), (59, .bool true)]) (by (try simp only [hb24]); kernel_rfl) ?_
                  refine OpsT.pures (r := [11, 12, 13, 14, 15]) [10] [1, 3, 4, 6, 55, 59, 60] (S' := [(1, .pointer (some ⟨b2, 0, none⟩)), (3, .pointer (some ⟨b9, 0, none⟩)), (4, .int .i64 x10), (6, .bool x14), (55, .bool false), (59, .bool true), (60, .pointer (some ⟨b2, 2, none⟩))]) (by kernel_rfl) ?_
                  refine OpsT.cons (Does.yi (Yl.load (d := 61) (T := 9) (v := .string a0.Name) (by kernel_rfl) (ldB ty9 (l := c_ApiEvent a0) (o := 2) (v := .string a0.Name) (pick2 _ _ _) (by kernel_rfl))) hI ?_)
                  refine OpsT.pures (r := []) [12, 13, 14, 15] [1, 3, 4, 6, 7] (S' := [(1, .pointer (some ⟨b2, 0, none⟩)), (3, .pointer (some ⟨b9, 0, none⟩)), (4, .int .i64 x10), (6, .bool x14), (7, .bool (seq a0.Name (⟨#[]⟩ : ByteArray)))]) (by kernel_rfl) ?_
                  refine OpsT.done ?_
                  have e := someS h1
                  subst e
                  exact Qn.thenJ fun a ha => ⟨seq a0.Name (⟨#[]⟩ : ByteArray), rfl, ha.keep [1, 3, 4, 6, 7] (by kernel_rfl), hI⟩
                · rw [if_neg hb24] at h1
                  have hb24 : (!(gt y7 1)) = false := by simpa using hb24
                  refine OpsT.keep [1, 3, 4, 6, 55, 59] (S' := [(1, .pointer (some ⟨b2, 0, none⟩)), (3, .pointer (some ⟨b9, 0, none⟩)), (4, .int .i64 x10), (6, .bool x14), (55, .bool false), (59, .bool false)]) (by (try simp only [hb24]); kernel_rfl) ?_
                  refine OpsT.pures (r := []) [10, 11, 12, 13, 14, 15] [1, 3, 4, 6, 7] (S' := [(1, .pointer (some ⟨b2, 0, none⟩)), (3, .pointer (some ⟨b9, 0, none⟩)), (4, .int .i64 x10), (6, .bool x14), (7, .bool false)]) (by kernel_rfl) ?_
                  refine OpsT.done ?_
                  have e := someS h1
                  subst e
                  exact Qn.thenJ fun a ha => ⟨false, rfl, ha.keep [1, 3, 4, 6, 7] (by kernel_rfl), hI⟩
            · rw [if_neg hb22] at h1
              have hb22 : (gt y7 1) = false := by simpa using hb22
              refine OpsT.keep [1, 3, 4, 5, 6, 52] (S' := [(1, .pointer (some ⟨b2, 0, none⟩)), (3, .pointer (some ⟨b9, 0, none⟩)), (4, .int .i64 x10), (5, .bool y13), (6, .bool x14), (52, .bool false)]) (by (try simp only [hb22]); kernel_rfl) ?_
              refine OpsT.pures (r := [7, 8, 9, 10, 11, 12, 13, 14, 15]) [3, 4, 5, 6] [1, 3, 4, 6, 55, 56] (S' := [(1, .pointer (some ⟨b2, 0, none⟩)), (3, .pointer (some ⟨b9, 0, none⟩)), (4, .int .i64 x10), (6, .bool x14), (55, .bool false), (56, .pointer (some ⟨b9, 1, none⟩))]) (by kernel_rfl) ?_
              refine OpsT.cons (Does.yi (Yl.load (d := 57) (T := 4) (v := .bool (gt y7 1)) (by kernel_rfl) (ldB ty4 (l := cA Value.bool y7) (o := 1) (v := .bool (gt y7 1)) (ent_refl _) (arr_getC _ _ 1 hl8 (by kernel_rfl)))) hI ?_)
              refine OpsT.pures (r := [10, 11, 12, 13, 14, 15]) [8, 9] [1, 3, 4, 6, 55, 59] (S' := [(1, .pointer (some ⟨b2, 0, none⟩)), (3, .pointer (some ⟨b9, 0, none⟩)), (4, .int .i64 x10), (6, .bool x14), (55, .bool false), (59, .bool (!(gt y7 1)))]) (by kernel_rfl) ?_
              by_cases hb25 : (!(gt y7 1)) = true
              · rw [if_pos hb25] at h1
                refine OpsT.keep [1, 3, 4, 6, 55, 59] (S' := [(1, .pointer (some ⟨b2, 0, none⟩)), (3, .pointer (some ⟨b9, 0, none⟩)), (4, .int .i64 x10), (6, .bool x14), (55, .bool false), (59, .bool true)]) (by (try simp only [hb25]); kernel_rfl) ?_
                refine OpsT.pures (r := [11, 12, 13, 14, 15]) [10] [1, 3, 4, 6, 55, 59, 60] (S' := [(1, .pointer (some ⟨b2, 0, none⟩)), (3, .pointer (some ⟨b9, 0, none⟩)), (4, .int .i64 x10), (6, .bool x14), (55, .bool false), (59, .bool true), (60, .pointer (some ⟨b2, 2, none⟩))]) (by kernel_rfl) ?_
                refine OpsT.cons (Does.yi (Yl.load (d := 61) (T := 9) (v := .string a0.Name) (by kernel_rfl) (ldB ty9 (l := c_ApiEvent a0) (o := 2) (v := .string a0.Name) (pick2 _ _ _) (by kernel_rfl))) hI ?_)
                refine OpsT.pures (r := []) [12, 13, 14, 15] [1, 3, 4, 6, 7] (S' := [(1, .pointer (some ⟨b2, 0, none⟩)), (3, .pointer (some ⟨b9, 0, none⟩)), (4, .int .i64 x10), (6, .bool x14), (7, .bool (seq a0.Name (⟨#[]⟩ : ByteArray)))]) (by kernel_rfl) ?_
                refine OpsT.done ?_
                have e := someS h1
                subst e
                exact Qn.thenJ fun a ha => ⟨seq a0.Name (⟨#[]⟩ : ByteArray), rfl, ha.keep [1, 3, 4, 6, 7] (by kernel_rfl), hI⟩
              · rw [if_neg hb25] at h1
                have hb25 : (!(gt y7 1)) = false := by simpa using hb25
                refine OpsT.keep [1, 3, 4, 6, 55, 59] (S' := [(1, .pointer (some ⟨b2, 0, none⟩)), (3, .pointer (some ⟨b9, 0, none⟩)), (4, .int .i64 x10), (6, .bool x14), (55, .bool false), (59, .bool false)]) (by (try simp only [hb25]); kernel_rfl) ?_
                refine OpsT.pures (r := []) [10, 11, 12, 13, 14, 15] [1, 3, 4, 6, 7] (S' := [(1, .pointer (some ⟨b2, 0, none⟩)), (3, .pointer (some ⟨b9, 0, none⟩)), (4, .int .i64 x10), (6, .bool x14), (7, .bool false)]) (by kernel_rfl) ?_
                refine OpsT.done ?_
                have e := someS h1
                subst e
                exact Qn.thenJ fun a ha => ⟨false, rfl, ha.keep [1, 3, 4, 6, 7] (by kernel_rfl), hI⟩
          ·
            rintro a w ⟨x21, rfl, ha, hI⟩
            try dsimp only at h0
            refine CodT.of ?_ ha
            obtain ⟨r1, h1, h0⟩ := bindS h0
            refine CodT.meet (fun a w => ∃ (x26 : Bool), x26 = r1 ∧ Fr 131 [(1, .pointer (some ⟨b2, 0, none⟩)), (3, .pointer (some ⟨b9, 0, none⟩)), (4, .int .i64 x10), (6, .bool x14), (7, .bool x21), (8, .bool x26)] a ∧ Inv w0 Z w (star (pt b9 (.cells (cA Value.bool y7).toArray 144 (0, 0))) (star (pt b2 (.cells (c_ApiEvent a0).toArray 65 (0, 0))) A))) ?_ ?_
            ·
              refine CodT.regionL [0, 1, 2, 3, 4, 5, 6, 7, 8, 9, 10, 11, 12, 13, 14, 15, 16, 17, 18, 19, 20, 21, 22] (by kernel_rfl) ?_
              refine OpsT.pures (r := [1, 2, 3, 4, 5, 6, 7, 8, 9, 10, 11, 12, 13, 14, 15, 16, 17, 18, 19, 20, 21, 22]) [0] [1, 3, 4, 6, 7, 65] (S' := [(1, .pointer (some ⟨b2, 0, none⟩)), (3, .pointer (some ⟨b9, 0, none⟩)), (4, .int .i64 x10), (6, .bool x14), (7, .bool x21), (65, .pointer (some ⟨b9, 2, none⟩))]) (by kernel_rfl) ?_
              refine OpsT.cons (Does.yi (Yl.load (d := 66) (T := 4) (v := .bool (gt y7 2)) (by kernel_rfl) (ldB ty4 (l := cA Value.bool y7) (o := 2) (v := .bool (gt y7 2)) (ent_refl _) (arr_getC _ _ 2 hl8 (by kernel_rfl)))) hI ?_)
              refine OpsT.pures (r := [3, 4, 5, 6, 7, 8, 9, 10, 11, 12, 13, 14, 15, 16, 17, 18, 19, 20, 21, 22]) [2] [1, 3, 4, 6, 7, 67] (S' := [(1, .pointer (some ⟨b2, 0, none⟩)), (3, .pointer (some ⟨b9, 0, none⟩)), (4, .int .i64 x10), (6, .bool x14), (7, .bool x21), (67, .bool (gt y7 2))]) (by kernel_rfl) ?_
              by_cases hb27 : (gt y7 2) = true
              · rw [if_pos hb27] at h1
                refine OpsT.keep [1, 3, 4, 6, 7, 67] (S' := [(1, .pointer (some ⟨b2, 0, none⟩)), (3, .pointer (some ⟨b9, 0, none⟩)), (4, .int .i64 x10), (6, .bool x14), (7, .bool x21), (67, .bool true)]) (by (try simp only [hb27]); kernel_rfl) ?_
                refine OpsT.pures (r := [4, 5, 6, 7, 8, 9, 10, 11, 12, 13, 14, 15, 16, 17, 18, 19, 20, 21, 22]) [3] [1, 3, 4, 6, 7, 67, 68] (S' := [(1, .pointer (some ⟨b2, 0, none⟩)), (3, .pointer (some ⟨b9, 0, none⟩)), (4, .int .i64 x10), (6, .bool x14), (7, .bool x21), (67, .bool true), (68, .pointer (some ⟨b2, 3, none⟩))]) (by kernel_rfl) ?_
                refine OpsT.cons (Does.yi (Yl.load (d := 69) (T := 3) (v := .int .i64 a0.Time) (by kernel_rfl) (ldB ty3 (l := c_ApiEvent a0) (o := 3) (v := .int .i64 a0.Time) (pick2 _ _ _) (by kernel_rfl))) hI ?_)
                refine OpsT.pures (r := [8, 9, 10, 11, 12, 13, 14, 15, 16, 17, 18, 19, 20, 21, 22]) [5, 6, 7] [1, 3, 4, 6, 7, 72] (S' := [(1, .pointer (some ⟨b2, 0, none⟩)), (3, .pointer (some ⟨b9, 0, none⟩)), (4, .int .i64 x10), (6, .bool x14), (7, .bool x21), (72, .bool (decide (a0.Time ≥ 0)))]) (by kernel_rfl) ?_
                by_cases hb28 : (decide (a0.Time ≥ 0)) = true
                · rw [if_pos hb28] at h1
                  refine OpsT.keep [1, 3, 4, 6, 7, 72] (S' := [(1, .pointer (some ⟨b2, 0, none⟩)), (3, .pointer (some ⟨b9, 0, none⟩)), (4, .int .i64 x10), (6, .bool x14), (7, .bool x21), (72, .bool true)]) (by (try simp only [hb28]); kernel_rfl) ?_
                  refine OpsT.pures (r := [9, 10, 11, 12, 13, 14, 15, 16, 17, 18, 19, 20, 21, 22]) [8] [1, 3, 4, 6, 7, 72, 73] (S' := [(1, .pointer (some ⟨b2, 0, none⟩)), (3, .pointer (some ⟨b9, 0, none⟩)), (4, .int .i64 x10), (6, .bool x14), (7, .bool x21), (72, .bool true), (73, .pointer (some ⟨b2, 3, none⟩))]) (by kernel_rfl) ?_
                  refine OpsT.cons (Does.yi (Yl.load (d := 74) (T := 3) (v := .int .i64 a0.Time) (by kernel_rfl) (ldB ty3 (l := c_ApiEvent a0) (o := 3) (v := .int .i64 a0.Time) (pick2 _ _ _) (by kernel_rfl))) hI ?_)
                  refine OpsT.pures (r := [13, 14, 15, 16, 17, 18, 19, 20, 21, 22]) [10, 11, 12] [1, 3, 4, 6, 7, 77] (S' := [(1, .pointer (some ⟨b2, 0, none⟩)), (3, .pointer (some ⟨b9, 0, none⟩)), (4, .int .i64 x10), (6, .bool x14), (7, .bool x21), (77, .bool (decide (a0.Time ≤ 1099511627776)))]) (by kernel_rfl) ?_
                  by_cases hb29 : (decide (a0.Time ≤ 1099511627776)) = true
                  · rw [if_pos hb29] at h1
                    refine OpsT.keep [1, 3, 4, 6, 7, 77] (S' := [(1, .pointer (some ⟨b2, 0, none⟩)), (3, .pointer (some ⟨b9, 0, none⟩)), (4, .int .i64 x10), (6, .bool x14), (7, .bool x21), (77, .bool true)]) (by (try simp only [hb29]); kernel_rfl) ?_
                    refine OpsT.pures (r := []) [13, 14, 15, 16, 17, 18, 19, 20, 21, 22] [1, 3, 4, 6, 7, 8] (S' := [(1, .pointer (some ⟨b2, 0, none⟩)), (3, .pointer (some ⟨b9, 0, none⟩)), (4, .int .i64 x10), (6, .bool x14), (7, .bool x21), (8, .bool true)]) (by kernel_rfl) ?_
                    refine OpsT.done ?_
                    have e := someS h1
                    subst e
                    exact Qn.thenJ fun a ha => ⟨true, rfl, ha.keep [1, 3, 4, 6, 7, 8] (by kernel_rfl), hI⟩
                  · rw [if_neg hb29] at h1
                    have hb29 : (decide (a0.Time ≤ 1099511627776)) = false := by simpa using hb29
                    refine OpsT.keep [1, 3, 4, 6, 7, 77] (S' := [(1, .pointer (some ⟨b2, 0, none⟩)), (3, .pointer (some ⟨b9, 0, none⟩)), (4, .int .i64 x10), (6, .bool x14), (7, .bool x21), (77, .bool false)]) (by (try simp only [hb29]); kernel_rfl) ?_
                    refine OpsT.pures (r := [14, 15, 16, 17, 18, 19, 20, 21, 22]) [13] [1, 3, 4, 6, 7, 77, 78] (S' := [(1, .pointer (some ⟨b2, 0, none⟩)), (3, .pointer (some ⟨b9, 0, none⟩)), (4, .int .i64 x10), (6, .bool x14), (7, .bool x21), (77, .bool false), (78, .pointer (some ⟨b9, 2, none⟩))]) (by kernel_rfl) ?_
                    refine OpsT.cons (Does.yi (Yl.load (d := 79) (T := 4) (v := .bool (gt y7 2)) (by kernel_rfl) (ldB ty4 (l := cA Value.bool y7) (o := 2) (v := .bool (gt y7 2)) (ent_refl _) (arr_getC _ _ 2 hl8 (by kernel_rfl)))) hI ?_)
                    refine OpsT.pures (r := [17, 18, 19, 20, 21, 22]) [15, 16] [1, 3, 4, 6, 7, 77, 81] (S' := [(1, .pointer (some ⟨b2, 0, none⟩)), (3, .pointer (some ⟨b9, 0, none⟩)), (4, .int .i64 x10), (6, .bool x14), (7, .bool x21), (77, .bool false), (81, .bool (!(gt y7 2)))]) (by kernel_rfl) ?_
                    by_cases hb30 : (!(gt y7 2)) = true
                    · rw [if_pos hb30] at h1
                      refine OpsT.keep [1, 3, 4, 6, 7, 77, 81] (S' := [(1, .pointer (some ⟨b2, 0, none⟩)), (3, .pointer (some ⟨b9, 0, none⟩)), (4, .int .i64 x10), (6, .bool x14), (7, .bool x21), (77, .bool false), (81, .bool true)]) (by (try simp only [hb30]); kernel_rfl) ?_
                      refine OpsT.pures (r := [18, 19, 20, 21, 22]) [17] [1, 3, 4, 6, 7, 77, 81, 82] (S' := [(1, .pointer (some ⟨b2, 0, none⟩)), (3, .pointer (some ⟨b9, 0, none⟩)), (4, .int .i64 x10), (6, .bool x14), (7, .bool x21), (77, .bool false), (81, .bool true), (82, .pointer (some ⟨b2, 3, none⟩))]) (by kernel_rfl) ?_
                      refine OpsT.cons (Does.yi (Yl.load (d := 83) (T := 3) (v := .int .i64 a0.Time) (by kernel_rfl) (ldB ty3 (l := c_ApiEvent a0) (o := 3) (v := .int .i64 a0.Time) (pick2 _ _ _) (by kernel_rfl))) hI ?_)
                      refine OpsT.pures (r := []) [19, 20, 21, 22] [1, 3, 4, 6, 7, 8] (S' := [(1, .pointer (some ⟨b2, 0, none⟩)), (3, .pointer (some ⟨b9, 0, none⟩)), (4, .int .i64 x10), (6, .bool x14), (7, .bool x21), (8, .bool (a0.Time == 0))]) (by kernel_rfl) ?_
                      refine OpsT.done ?_
                      have e := someS h1
                      subst e
                      exact Qn.thenJ fun a ha => ⟨a0.Time == 0, rfl, ha.keep [1, 3, 4, 6, 7, 8] (by kernel_rfl), hI⟩
                    · rw [if_neg hb30] at h1
                      have hb30 : (!(gt y7 2)) = false := by simpa using hb30
                      refine OpsT.keep [1, 3, 4, 6, 7, 77, 81] (S' := [(1, .pointer (some ⟨b2, 0, none⟩)), (3, .pointer (some ⟨b9, 0, none⟩)), (4, .int .i64 x10), (6, .bool x14), (7, .bool x21), (77, .bool false), (81, .bool false)]) (by (try simp only [hb30]); kernel_rfl) ?_
                      refine OpsT.pures (r := []) [17, 18, 19, 20, 21, 22] [1, 3, 4, 6, 7, 8] (S' := [(1, .pointer (some ⟨b2, 0, none⟩)), (3, .pointer (some ⟨b9, 0, none⟩)), (4, .int .i64 x10), (6, .bool x14), (7, .bool x21), (8, .bool false)]) (by kernel_rfl) ?_
                      refine OpsT.done ?_
                      have e := someS h1
                      subst e
                      exact Qn.thenJ fun a ha => ⟨false, rfl, ha.keep [1, 3, 4, 6, 7, 8] (by kernel_rfl), hI⟩
                · rw [if_neg hb28] at h1
                  have hb28 : (decide (a0.Time ≥ 0)) = false := by simpa using hb28
                  refine OpsT.keep [1, 3, 4, 6, 7, 72] (S' := [(1, .pointer (some ⟨b2, 0, none⟩)), (3, .pointer (some ⟨b9, 0, none⟩)), (4, .int .i64 x10), (6, .bool x14), (7, .bool x21), (72, .bool false)]) (by (try simp only [hb28]); kernel_rfl) ?_
                  refine OpsT.pures (r := [14, 15, 16, 17, 18, 19, 20, 21, 22]) [8, 9, 10, 11, 12, 13] [1, 3, 4, 6, 7, 77, 78] (S' := [(1, .pointer (some ⟨b2, 0, none⟩)), (3, .pointer (some ⟨b9, 0, none⟩)), (4, .int .i64 x10), (6, .bool x14), (7, .bool x21), (77, .bool false), (78, .pointer (some ⟨b9, 2, none⟩))]) (by kernel_rfl) ?_
                  refine OpsT.cons (Does.yi (Yl.load (d := 79) (T := 4) (v := .bool (gt y7 2)) (by kernel_rfl) (ldB ty4 (l := cA Value.bool y7) (o := 2) (v := .bool (gt y7 2)) (ent_refl _) (arr_getC _ _ 2 hl8 (by kernel_rfl)))) hI ?_)
                  refine OpsT.pures (r := [17, 18, 19, 20, 21, 22]) [15, 16] [1, 3, 4, 6, 7, 77, 81] (S' := [(1, .pointer (some ⟨b2, 0, none⟩)), (3, .pointer (some ⟨b9, 0, none⟩)), (4, .int .i64 x10), (6, .bool x14), (7, .bool x21), (77, .bool false), (81, .bool (!(gt y7 2)))]) (by kernel_rfl) ?_
                  by_cases hb31 : (!(gt y7 2)) = true
                  · rw [if_pos hb31] at h1
                    refine OpsT.keep [1, 3, 4, 6, 7, 77, 81] (S' := [(1, .pointer (some ⟨b2, 0, none⟩)), (3, .pointer (some ⟨b9, 0, none⟩)), (4, .int .i64 x10), (6, .bool x14), (7, .bool x21), (77, .bool false), (81, .bool true)]) (by (try simp only [hb31]); kernel_rfl) ?_
                    refine OpsT.pures (r := [18, 19, 20, 21, 22]) [17] [1, 3, 4, 6, 7, 77, 81, 82] (S' := [(1, .pointer (some ⟨b2, 0, none⟩)), (3, .pointer (some ⟨b9, 0, none⟩)), (4, .int .i64 x10), (6, .bool x14), (7, .bool x21), (77, .bool false), (81, .bool true), (82, .pointer (some ⟨b2, 3, none⟩))]) (by kernel_rfl) ?_
                    refine OpsT.cons (Does.yi (Yl.load (d := 83) (T := 3) (v := .int .i64 a0.Time) (by kernel_rfl) (ldB ty3 (l := c_ApiEvent a0) (o := 3) (v := .int .i64 a0.Time) (pick2 _ _ _) (by kernel_rfl))) hI ?_)
                    refine OpsT.pures (r := []) [19, 20, 21, 22] [1, 3, 4, 6, 7, 8] (S' := [(1, .pointer (some ⟨b2, 0, none⟩)), (3, .pointer (some ⟨b9, 0, none⟩)), (4, .int .i64 x10), (6, .bool x14), (7, .bool x21), (8, .bool (a0.Time == 0))]) (by kernel_rfl) ?_
                    refine OpsT.done ?_
                    have e := someS h1
                    subst e
                    exact Qn.thenJ fun a ha => ⟨a0.Time == 0, rfl, ha.keep [1, 3, 4, 6, 7, 8] (by kernel_rfl), hI⟩
                  · rw [if_neg hb31] at h1
                    have hb31 : (!(gt y7 2)) = false := by simpa using hb31
                    refine OpsT.keep [1, 3, 4, 6, 7, 77, 81] (S' := [(1, .pointer (some ⟨b2, 0, none⟩)), (3, .pointer (some ⟨b9, 0, none⟩)), (4, .int .i64 x10), (6, .bool x14), (7, .bool x21), (77, .bool false), (81, .bool false)]) (by (try simp only [hb31]); kernel_rfl) ?_
                    refine OpsT.pures (r := []) [17, 18, 19, 20, 21, 22] [1, 3, 4, 6, 7, 8] (S' := [(1, .pointer (some ⟨b2, 0, none⟩)), (3, .pointer (some ⟨b9, 0, none⟩)), (4, .int .i64 x10), (6, .bool x14), (7, .bool x21), (8, .bool false)]) (by kernel_rfl) ?_
                    refine OpsT.done ?_
                    have e := someS h1
                    subst e
                    exact Qn.thenJ fun a ha => ⟨false, rfl, ha.keep [1, 3, 4, 6, 7, 8] (by kernel_rfl), hI⟩
              · rw [if_neg hb27] at h1
                have hb27 : (gt y7 2) = false := by simpa using hb27
                refine OpsT.keep [1, 3, 4, 6, 7, 67] (S' := [(1, .pointer (some ⟨b2, 0, none⟩)), (3, .pointer (some ⟨b9, 0, none⟩)), (4, .int .i64 x10), (6, .bool x14), (7, .bool x21), (67, .bool false)]) (by (try simp only [hb27]); kernel_rfl) ?_
                refine OpsT.pures (r := [14, 15, 16, 17, 18, 19, 20, 21, 22]) [3, 4, 5, 6, 7, 8, 9, 10, 11, 12, 13] [1, 3, 4, 6, 7, 77, 78] (S' := [(1, .pointer (some ⟨b2, 0, none⟩)), (3, .pointer (some ⟨b9, 0, none⟩)), (4, .int .i64 x10), (6, .bool x14), (7, .bool x21), (77, .bool false), (78, .pointer (some ⟨b9, 2, none⟩))]) (by kernel_rfl) ?_
                refine OpsT.cons (Does.yi (Yl.load (d := 79) (T := 4) (v := .bool (gt y7 2)) (by kernel_rfl) (ldB ty4 (l := cA Value.bool y7) (o := 2) (v := .bool (gt y7 2)) (ent_refl _) (arr_getC _ _ 2 hl8 (by kernel_rfl)))) hI ?_)
                refine OpsT.pures (r := [17, 18, 19, 20, 21, 22]) [15, 16] [1, 3, 4, 6, 7, 77, 81] (S' := [(1, .pointer (some ⟨b2, 0, none⟩)), (3, .pointer (some ⟨b9, 0, none⟩)), (4, .int .i64 x10), (6, .bool x14), (7, .bool x21), (77, .bool false), (81, .bool (!(gt y7 2)))]) (by kernel_rfl) ?_
                by_cases hb32 : (!(gt y7 2)) = true
                · rw [if_pos hb32] at h1
                  refine OpsT.keep [1, 3, 4, 6, 7, 77, 81] (S' := [(1, .pointer (some ⟨b2, 0, none⟩)), (3, .pointer (some ⟨b9, 0, none⟩)), (4, .int .i64 x10), (6, .bool x14), (7, .bool x21), (77, .bool false), (81, .bool true)]) (by (try simp only [hb32]); kernel_rfl) ?_
                  refine OpsT.pures (r := [18, 19, 20, 21, 22]) [17] [1, 3, 4, 6, 7, 77, 81, 82] (S' := [(1, .pointer (some ⟨b2, 0, none⟩)), (3, .pointer (some ⟨b9, 0, none⟩)), (4, .int .i64 x10), (6, .bool x14), (7, .bool x21), (77, .bool false), (81, .bool true), (82, .pointer (some ⟨b2, 3, none⟩))]) (by kernel_rfl) ?_
                  refine OpsT.cons (Does.yi (Yl.load (d := 83) (T := 3) (v := .int .i64 a0.Time) (by kernel_rfl) (ldB ty3 (l := c_ApiEvent a0) (o := 3) (v := .int .i64 a0.Time) (pick2 _ _ _) (by kernel_rfl))) hI ?_)
                  refine OpsT.pures (r := []) [19, 20, 21, 22] [1, 3, 4, 6, 7, 8] (S' := [(1, .pointer (some ⟨b2, 0, none⟩)), (3, .pointer (some ⟨b9, 0, none⟩)), (4, .int .i64 x10), (6, .bool x14), (7, .bool x21), (8, .bool (a0.Time == 0))]) (by kernel_rfl) ?_
                  refine OpsT.done ?_
                  have e := someS h1
                  subst e
                  exact Qn.thenJ fun a ha => ⟨a0.Time == 0, rfl, ha.keep [1, 3, 4, 6, 7, 8] (by kernel_rfl), hI⟩
                · rw [if_neg hb32] at h1
                  have hb32 : (!(gt y7 2)) = false := by simpa using hb32
                  refine OpsT.keep [1, 3, 4, 6, 7, 77, 81] (S' := [(1, .pointer (some ⟨b2, 0, none⟩)), (3, .pointer (some ⟨b9, 0, none⟩)), (4, .int .i64 x10), (6, .bool x14), (7, .bool x21), (77, .bool false), (81, .bool false)]) (by (try simp only [hb32]); kernel_rfl) ?_
                  refine OpsT.pures (r := []) [17, 18, 19, 20, 21, 22] [1, 3, 4, 6, 7, 8] (S' := [(1, .pointer (some ⟨b2, 0, none⟩)), (3, .pointer (some ⟨b9, 0, none⟩)), (4, .int .i64 x10), (6, .bool x14), (7, .bool x21), (8, .bool false)]) (by kernel_rfl) ?_
                  refine OpsT.done ?_
                  have e := someS h1
                  subst e
                  exact Qn.thenJ fun a ha => ⟨false, rfl, ha.keep [1, 3, 4, 6, 7, 8] (by kernel_rfl), hI⟩
            ·
              rintro a w ⟨x26, rfl, ha, hI⟩
              try dsimp only at h0
              refine CodT.of ?_ ha
              obtain ⟨r1, h1, h0⟩ := bindS h0
              refine CodT.meet (fun a w => ∃ (x33 : Bool), x33 = r1 ∧ Fr 131 [(1, .pointer (some ⟨b2, 0, none⟩)), (3, .pointer (some ⟨b9, 0, none⟩)), (6, .bool x14), (7, .bool x21), (8, .bool x26), (9, .bool x33)] a ∧ Inv w0 Z w (star (pt b9 (.cells (cA Value.bool y7).toArray 144 (0, 0))) (star (pt b2 (.cells (c_ApiEvent a0).toArray 65 (0, 0))) A))) ?_ ?_
              ·
                refine CodT.regionL [0, 1, 2, 3, 4, 5, 6, 7, 8, 9, 10, 11, 12, 13, 14, 15, 16, 17, 18, 19, 20, 21, 22, 23] (by kernel_rfl) ?_
                refine OpsT.pures (r := [1, 2, 3, 4, 5, 6, 7, 8, 9, 10, 11, 12, 13, 14, 15, 16, 17, 18, 19, 20, 21, 22, 23]) [0] [1, 3, 4, 6, 7, 8, 87] (S' := [(1, .pointer (some ⟨b2, 0, none⟩)), (3, .pointer (some ⟨b9, 0, none⟩)), (4, .int .i64 x10), (6, .bool x14), (7, .bool x21), (8, .bool x26), (87, .pointer (some ⟨b9, 3, none⟩))]) (by kernel_rfl) ?_
                refine OpsT.cons (Does.yi (Yl.load (d := 88) (T := 4) (v := .bool (gt y7 3)) (by kernel_rfl) (ldB ty4 (l := cA Value.bool y7) (o := 3) (v := .bool (gt y7 3)) (ent_refl _) (arr_getC _ _ 3 hl8 (by kernel_rfl)))) hI ?_)
                refine OpsT.pures (r := [3, 4, 5, 6, 7, 8, 9, 10, 11, 12, 13, 14, 15, 16, 17, 18, 19, 20, 21, 22, 23]) [2] [1, 3, 4, 6, 7, 8, 89] (S' := [(1, .pointer (some ⟨b2, 0, none⟩)), (3, .pointer (some ⟨b9, 0, none⟩)), (4, .int .i64 x10), (6, .bool x14), (7, .bool x21), (8, .bool x26), (89, .bool (gt y7 3))]) (by kernel_rfl) ?_
                by_cases hb34 : (gt y7 3) = true
                · rw [if_pos hb34] at h1
                  refine OpsT.keep [1, 3, 4, 6, 7, 8, 89] (S' := [(1, .pointer (some ⟨b2, 0, none⟩)), (3, .pointer (some ⟨b9, 0, none⟩)), (4, .int .i64 x10), (6, .bool x14), (7, .bool x21), (8, .bool x26), (89, .bool true)]) (by (try simp only [hb34]); kernel_rfl) ?_
                  refine OpsT.pures (r := [4, 5, 6, 7, 8, 9, 10, 11, 12, 13, 14, 15, 16, 17, 18, 19, 20, 21, 22, 23]) [3] [1, 3, 4, 6, 7, 8, 89, 90] (S' := [(1, .pointer (some ⟨b2, 0, none⟩)), (3, .pointer (some ⟨b9, 0, none⟩)), (4, .int .i64 x10), (6, .bool x14), (7, .bool x21), (8, .bool x26), (89, .bool true), (90, .pointer (some ⟨b2, 4, none⟩))]) (by kernel_rfl) ?_
                  refine OpsT.cons (Does.yi (Yl.load (d := 91) (T := 3) (v := .int .i64 a0.Len) (by kernel_rfl) (ldB ty3 (l := c_ApiEvent a0) (o := 4) (v := .int .i64 a0.Len) (pick2 _ _ _) (by kernel_rfl))) hI ?_)
                  refine OpsT.pures (r := [9, 10, 11, 12, 13, 14, 15, 16, 17, 18, 19, 20, 21, 22, 23]) [5, 6, 7, 8] [1, 3, 6, 7, 8, 95] (S' := [(1, .pointer (some ⟨b2, 0, none⟩)), (3, .pointer (some ⟨b9, 0, none⟩)), (6, .bool x14), (7, .bool x21), (8, .bool x26), (95, .bool (decide (a0.Len ≥ x10)))]) (by kernel_rfl) ?_
                  by_cases hb35 : (decide (a0.Len ≥ x10)) = true
                  · rw [if_pos hb35] at h1
                    refine OpsT.keep [1, 3, 6, 7, 8, 95] (S' := [(1, .pointer (some ⟨b2, 0, none⟩)), (3, .pointer (some ⟨b9, 0, none⟩)), (6, .bool x14), (7, .bool x21), (8, .bool x26), (95, .bool true)]) (by (try simp only [hb35]); kernel_rfl) ?_
                    refine OpsT.pures (r := [10, 11, 12, 13, 14, 15, 16, 17, 18, 19, 20, 21, 22, 23]) [9] [1, 3, 6, 7, 8, 95, 96] (S' := [(1, .pointer (some ⟨b2, 0, none⟩)), (3, .pointer (some ⟨b9, 0, none⟩)), (6, .bool x14), (7, .bool x21), (8, .bool x26), (95, .bool true), (96, .pointer (some ⟨b2, 4, none⟩))]) (by kernel_rfl) ?_
                    refine OpsT.cons (Does.yi (Yl.load (d := 97) (T := 3) (v := .int .i64 a0.Len) (by kernel_rfl) (ldB ty3 (l := c_ApiEvent a0) (o := 4) (v := .int .i64 a0.Len) (pick2 _ _ _) (by kernel_rfl))) hI ?_)
                    refine OpsT.pures (r := [14, 15, 16, 17, 18, 19, 20, 21, 22, 23]) [11, 12, 13] [1, 3, 6, 7, 8, 100] (S' := [(1, .pointer (some ⟨b2, 0, none⟩)), (3, .pointer (some ⟨b9, 0, none⟩)), (6, .bool x14), (7, .bool x21), (8, .bool x26), (100, .bool (decide (a0.Len ≤ 600)))]) (by kernel_rfl) ?_
                    by_cases hb36 : (decide (a0.Len ≤ 600)) = true
                    · rw [if_pos hb36] at h1
                      refine OpsT.keep [1, 3, 6, 7, 8, 100] (S' := [(1, .pointer (some ⟨b2, 0, none⟩)), (3, .pointer (some ⟨b9, 0, none⟩)), (6, .bool x14), (7, .bool x21), (8, .bool x26), (100, .bool true)]) (by (try simp only [hb36]); kernel_rfl) ?_
                      refine OpsT.pures (r := []) [14, 15, 16, 17, 18, 19, 20, 21, 22, 23] [1, 3, 6, 7, 8, 9] (S' := [(1, .pointer (some ⟨b2, 0, none⟩)), (3, .pointer (some ⟨b9, 0, none⟩)), (6, .bool x14), (7, .bool x21), (8, .bool x26), (9, .bool true)]) (by kernel_rfl) ?_
                      refine OpsT.done ?_
                      have e := someS h1
                      subst e
                      exact Qn.thenJ fun a ha => ⟨true, rfl, ha.keep [1, 3, 6, 7, 8, 9] (by kernel_rfl), hI⟩
                    · rw [if_neg hb36] at h1
                      have hb36 : (decide (a0.Len ≤ 600)) = false := by simpa using hb36
                      refine OpsT.keep [1, 3, 6, 7, 8, 100] (S' := [(1, .pointer (some ⟨b2, 0, none⟩)), (3, .pointer (some ⟨b9, 0, none⟩)), (6, .bool x14), (7, .bool x21), (8, .bool x26), (100, .bool false)]) (by (try simp only [hb36]); kernel_rfl) ?_
                      refine OpsT.pures (r := [15, 16, 17, 18, 19, 20, 21, 22, 23]) [14] [1, 3, 6, 7, 8, 100, 101] (S' := [(1, .pointer (some ⟨b2, 0, none⟩)), (3, .pointer (some ⟨b9, 0, none⟩)), (6, .bool x14), (7, .bool x21), (8, .bool x26), (100, .bool false), (101, .pointer (some ⟨b9, 3, none⟩))]) (by kernel_rfl) ?_
                      refine OpsT.cons (Does.yi (Yl.load (d := 102) (T := 4) (v := .bool (gt y7 3)) (by kernel_rfl) (ldB ty4 (l := cA Value.bool y7) (o := 3) (v := .bool (gt y7 3)) (ent_refl _) (arr_getC _ _ 3 hl8 (by kernel_rfl)))) hI ?_)
                      refine OpsT.pures (r := [18, 19, 20, 21, 22, 23]) [16, 17] [1, 3, 6, 7, 8, 100, 104] (S' := [(1, .pointer (some ⟨b2, 0, none⟩)), (3, .pointer (some ⟨b9, 0, none⟩)), (6, .bool x14), (7, .bool x21), (8, .bool x26), (100, .bool false), (104, .bool (!(gt y7 3)))]) (by kernel_rfl) ?_
                      by_cases hb37 : (!(gt y7 3)) = true
                      · rw [if_pos hb37] at h1
                        refine OpsT.keep [1, 3, 6, 7, 8, 100, 104] (S' := [(1, .pointer (some ⟨b2, 0, none⟩)), (3, .pointer (some ⟨b9, 0, none⟩)), (6, .bool x14), (7, .bool x21), (8, .bool x26), (100, .bool false), (104, .bool true)]) (by (try simp only [hb37]); kernel_rfl) ?_
                        refine OpsT.pures (r := [19, 20, 21, 22, 23]) [18] [1, 3, 6, 7, 8, 100, 104, 105] (S' := [(1, .pointer (some ⟨b2, 0, none⟩)), (3, .pointer (some ⟨b9, 0, none⟩)), (6, .bool x14), (7, .bool x21), (8, .bool x26), (100, .bool false), (104, .bool true), (105, .pointer (some ⟨b2, 4, none⟩))]) (by kernel_rfl) ?_
                        refine OpsT.cons (Does.yi (Yl.load (d := 106) (T := 3) (v := .int .i64 a0.Len) (by kernel_rfl) (ldB ty3 (l := c_ApiEvent a0) (o := 4) (v := .int .i64 a0.Len) (pick2 _ _ _) (by kernel_rfl))) hI ?_)
                        refine OpsT.pures (r := []) [20, 21, 22, 23] [1, 3, 6, 7, 8, 9] (S' := [(1, .pointer (some ⟨b2, 0, none⟩)), (3, .pointer (some ⟨b9, 0, none⟩)), (6, .bool x14), (7, .bool x21), (8, .bool x26), (9, .bool (a0.Len == 0))]) (by kernel_rfl) ?_
                        refine OpsT.done ?_
                        have e := someS h1
                        subst e
                        exact Qn.thenJ fun a ha => ⟨a0.Len == 0, rfl, ha.keep [1, 3, 6, 7, 8, 9] (by kernel_rfl), hI⟩
                      · rw [if_neg hb37] at h1
                        have hb37 : (!(gt y7 3)) = false := by simpa using hb37
                        refine OpsT.keep [1, 3, 6, 7, 8, 100, 104] (S' := [(1, .pointer (some ⟨b2, 0, none⟩)), (3, .pointer (some ⟨b9, 0, none⟩)), (6, .bool x14), (7, .bool x21), (8, .bool x26), (100, .bool false), (104, .bool false)]) (by (try simp only [hb37]); kernel_rfl) ?_
                        refine OpsT.pures (r := []) [18, 19, 20, 21, 22, 23] [1, 3, 6, 7, 8, 9] (S' := [(1, .pointer (some ⟨b2, 0, none⟩)), (3, .pointer (some ⟨b9, 0, none⟩)), (6, .bool x14), (7, .bool x21), (8, .bool x26), (9, .bool false)]) (by kernel_rfl) ?_
                        refine OpsT.done ?_
                        have e := someS h1
                        subst e
                        exact Qn.thenJ fun a ha => ⟨false, rfl, ha.keep [1, 3, 6, 7, 8, 9] (by kernel_rfl), hI⟩
                  · rw [if_neg hb35] at h1
                    have hb35 : (decide (a0.Len ≥ x10)) = false := by simpa using hb35
                    refine OpsT.keep [1, 3, 6, 7, 8, 95] (S' := [(1, .pointer (some ⟨b2, 0, none⟩)), (3, .pointer (some ⟨b9, 0, none⟩)), (6, .bool x14), (7, .bool x21), (8, .bool x26), (95, .bool false)]) (by (try simp only [hb35]); kernel_rfl) ?_
                    refine OpsT.pures (r := [15, 16, 17, 18, 19, 20, 21, 22, 23]) [9, 10, 11, 12, 13, 14] [1, 3, 6, 7, 8, 100, 101] (S' := [(1, .pointer (some ⟨b2, 0, none⟩)), (3, .pointer (some ⟨b9, 0, none⟩)), (6, .bool x14), (7, .bool x21), (8, .bool x26), (100, .bool false), (101, .pointer (some ⟨b9, 3, none⟩))]) (by kernel_rfl) ?_
                    refine OpsT.cons (Does.yi (Yl.load (d := 102) (T := 4) (v := .bool (gt y7 3)) (by kernel_rfl) (ldB ty4 (l := cA Value.bool y7) (o := 3) (v := .bool (gt y7 3)) (ent_refl _) (arr_getC _ _ 3 hl8 (by kernel_rfl)))) hI ?_)
                    refine OpsT.pures (r := [18, 19, 20, 21, 22, 23]) [16, 17] [1, 3, 6, 7, 8, 100, 104] (S' := [(1, .pointer (some ⟨b2, 0, none⟩)), (3, .pointer (some ⟨b9, 0, none⟩)), (6, .bool x14), (7, .bool x21), (8, .bool x26), (100, .bool false), (104, .bool (!(gt y7 3)))]) (by kernel_rfl) ?_
                    by_cases hb38 : (!(gt y7 3)) = true
                    · rw [if_pos hb38] at h1
                      refine OpsT.keep [1, 3, 6, 7, 8, 100, 104] (S' := [(1, .pointer (some ⟨b2, 0, none⟩)), (3, .pointer (some ⟨b9, 0, none⟩)), (6, .bool x14), (7, .bool x21), (8, .bool x26), (100, .bool false), (104, .bool true)]) (by (try simp only [hb38]); kernel_rfl) ?_
                      refine OpsT.pures (r := [19, 20, 21, 22, 23]) [18] [1, 3, 6, 7, 8, 100, 104, 105] (S' := [(1, .pointer (some ⟨b2, 0, none⟩)), (3, .pointer (some ⟨b9, 0, none⟩)), (6, .bool x14), (7, .bool x21), (8, .bool x26), (100, .bool false), (104, .bool true), (105, .pointer (some ⟨b2, 4, none⟩))]) (by kernel_rfl) ?_
                      refine OpsT.cons (Does.yi (Yl.load (d := 106) (T := 3) (v := .int .i64 a0.Len) (by kernel_rfl) (ldB ty3 (l := c_ApiEvent a0) (o := 4) (v := .int .i64 a0.Len) (pick2 _ _ _) (by kernel_rfl))) hI ?_)
                      refine OpsT.pures (r := []) [20, 21, 22, 23] [1, 3, 6, 7, 8, 9] (S' := [(1, .pointer (some ⟨b2, 0, none⟩)), (3, .pointer (some ⟨b9, 0, none⟩)), (6, .bool x14), (7, .bool x21), (8, .bool x26), (9, .bool (a0.Len == 0))]) (by kernel_rfl) ?_
                      refine OpsT.done ?_
                      have e := someS h1
                      subst e
                      exact Qn.thenJ fun a ha => ⟨a0.Len == 0, rfl, ha.keep [1, 3, 6, 7, 8, 9] (by kernel_rfl), hI⟩
                    · rw [if_neg hb38] at h1
                      have hb38 : (!(gt y7 3)) = false := by simpa using hb38
                      refine OpsT.keep [1, 3, 6, 7, 8, 100, 104] (S' := [(1, .pointer (some ⟨b2, 0, none⟩)), (3, .pointer (some ⟨b9, 0, none⟩)), (6, .bool x14), (7, .bool x21), (8, .bool x26), (100, .bool false), (104, .bool false)]) (by (try simp only [hb38]); kernel_rfl) ?_
                      refine OpsT.pures (r := []) [18, 19, 20, 21, 22, 23] [1, 3, 6, 7, 8, 9] (S' := [(1, .pointer (some ⟨b2, 0, none⟩)), (3, .pointer (some ⟨b9, 0, none⟩)), (6, .bool x14), (7, .bool x21), (8, .bool x26), (9, .bool false)]) (by kernel_rfl) ?_
                      refine OpsT.done ?_
                      have e := someS h1
                      subst e
                      exact Qn.thenJ fun a ha => ⟨false, rfl, ha.keep [1, 3, 6, 7, 8, 9] (by kernel_rfl), hI⟩
                · rw [if_neg hb34] at h1
                  have hb34 : (gt y7 3) = false := by simpa using hb34
                  refine OpsT.keep [1, 3, 4, 6, 7, 8, 89] (S' := [(1, .pointer (some ⟨b2, 0, none⟩)), (3, .pointer (some ⟨b9, 0, none⟩)), (4, .int .i64 x10), (6, .bool x14), (7, .bool x21), (8, .bool x26), (89, .bool false)]) (by (try simp only [hb34]); kernel_rfl) ?_
                  refine OpsT.pures (r := [15, 16, 17, 18, 19, 20, 21, 22, 23]) [3, 4, 5, 6, 7, 8, 9, 10, 11, 12, 13, 14] [1, 3, 6, 7, 8, 100, 101] (S' := [(1, .pointer (some ⟨b2, 0, none⟩)), (3, .pointer (some ⟨b9, 0, none⟩)), (6, .bool x14), (7, .bool x21), (8, .bool x26), (100, .bool false), (101, .pointer (some ⟨b9, 3, none⟩))]) (by kernel_rfl) ?_
                  refine OpsT.cons (Does.yi (Yl.load (d := 102) (T := 4) (v := .bool (gt y7 3)) (by kernel_rfl) (ldB ty4 (l := cA Value.bool y7) (o := 3) (v := .bool (gt y7 3)) (ent_refl _) (arr_getC _ _ 3 hl8 (by kernel_rfl)))) hI ?_)
                  refine OpsT.pures (r := [18, 19, 20, 21, 22, 23]) [16, 17] [1, 3, 6, 7, 8, 100, 104] (S' := [(1, .pointer (some ⟨b2, 0, none⟩)), (3, .pointer (some ⟨b9, 0, none⟩)), (6, .bool x14), (7, .bool x21), (8, .bool x26), (100, .bool false), (104, .bool (!(gt y7 3)))]) (by kernel_rfl) ?_
                  by_cases hb39 : (!(gt y7 3)) = true
                  · rw [if_pos hb39] at h1
                    refine OpsT.keep [1, 3, 6, 7, 8, 100, 104] (S' := [(1, .pointer (some ⟨b2, 0, none⟩)), (3, .pointer (some ⟨b9, 0, none⟩)), (6, .bool x14), (7, .bool x21), (8, .bool x26), (100, .bool false), (104, .bool true)]) (by (try simp only [hb39]); kernel_rfl) ?_
                    refine OpsT.pures (r := [19, 20, 21, 22, 23]) [18] [1, 3, 6, 7, 8, 100, 104, 105] (S' := [(1, .pointer (some ⟨b2, 0, none⟩)), (3, .pointer (some ⟨b9, 0, none⟩)), (6, .bool x14), (7, .bool x21), (8, .bool x26), (100, .bool false), (104, .bool true), (105, .pointer (some ⟨b2, 4, none⟩))]) (by kernel_rfl) ?_
                    refine OpsT.cons (Does.yi (Yl.load (d := 106) (T := 3) (v := .int .i64 a0.Len) (by kernel_rfl) (ldB ty3 (l := c_ApiEvent a0) (o := 4) (v := .int .i64 a0.Len) (pick2 _ _ _) (by kernel_rfl))) hI ?_)
                    refine OpsT.pures (r := []) [20, 21, 22, 23] [1, 3, 6, 7, 8, 9] (S' := [(1, .pointer (some ⟨b2, 0, none⟩)), (3, .pointer (some ⟨b9, 0, none⟩)), (6, .bool x14), (7, .bool x21), (8, .bool x26), (9, .bool (a0.Len == 0))]) (by kernel_rfl) ?_
                    refine OpsT.done ?_
                    have e := someS h1
                    subst e
                    exact Qn.thenJ fun a ha => ⟨a0.Len == 0, rfl, ha.keep [1, 3, 6, 7, 8, 9] (by kernel_rfl), hI⟩
                  · rw [if_neg hb39] at h1
                    have hb39 : (!(gt y7 3)) = false := by simpa using hb39
                    refine OpsT.keep [1, 3, 6, 7, 8, 100, 104] (S' := [(1, .pointer (some ⟨b2, 0, none⟩)), (3, .pointer (some ⟨b9, 0, none⟩)), (6, .bool x14), (7, .bool x21), (8, .bool x26), (100, .bool false), (104, .bool false)]) (by (try simp only [hb39]); kernel_rfl) ?_
                    refine OpsT.pures (r := []) [18, 19, 20, 21, 22, 23] [1, 3, 6, 7, 8, 9] (S' := [(1, .pointer (some ⟨b2, 0, none⟩)), (3, .pointer (some ⟨b9, 0, none⟩)), (6, .bool x14), (7, .bool x21), (8, .bool x26), (9, .bool false)]) (by kernel_rfl) ?_
                    refine OpsT.done ?_
                    have e := someS h1
                    subst e
                    exact Qn.thenJ fun a ha => ⟨false, rfl, ha.keep [1, 3, 6, 7, 8, 9] (by kernel_rfl), hI⟩
              ·
                rintro a w ⟨x33, rfl, ha, hI⟩
                try dsimp only at h0
                refine CodT.of ?_ ha
                obtain ⟨r1, h1, h0⟩ := bindS h0
                refine CodT.meet (fun a w => ∃ (x40 : Bool), x40 = r1 ∧ Fr 131 [(6, .bool x14), (7, .bool x21), (8, .bool x26), (9, .bool x33), (10, .bool x40)] a ∧ Inv w0 Z w A) ?_ ?_
                ·
                  refine CodT.regionL [0, 1, 2, 3, 4, 5, 6, 7, 8] (by kernel_rfl) ?_
                  refine OpsT.pures (r := [1, 2, 3, 4, 5, 6, 7, 8]) [0] [1, 6, 7, 8, 9, 110] (S' := [(1, .pointer (some ⟨b2, 0, none⟩)), (6, .bool x14), (7, .bool x21), (8, .bool x26), (9, .bool x33), (110, .pointer (some ⟨b9, 4, none⟩))]) (by kernel_rfl) ?_
                  refine OpsT.cons (Does.yi (Yl.load (d := 111) (T := 4) (v := .bool (gt y7 4)) (by kernel_rfl) (ldB ty4 (l := cA Value.bool y7) (o := 4) (v := .bool (gt y7 4)) (ent_refl _) (arr_getC _ _ 4 hl8 (by kernel_rfl)))) hI ?_)
                  refine OpsT.pures (r := [3, 4, 5, 6, 7, 8]) [2] [1, 6, 7, 8, 9, 112] (S' := [(1, .pointer (some ⟨b2, 0, none⟩)), (6, .bool x14), (7, .bool x21), (8, .bool x26), (9, .bool x33), (112, .bool (gt y7 4))]) (by kernel_rfl) ?_
                  by_cases hb41 : (gt y7 4) = true
                  · rw [if_pos hb41] at h1
                    refine OpsT.keep [1, 6, 7, 8, 9, 112] (S' := [(1, .pointer (some ⟨b2, 0, none⟩)), (6, .bool x14), (7, .bool x21), (8, .bool x26), (9, .bool x33), (112, .bool true)]) (by (try simp only [hb41]); kernel_rfl) ?_
                    refine OpsT.pures (r := []) [3, 4, 5, 6, 7, 8] [6, 7, 8, 9, 10] (S' := [(6, .bool x14), (7, .bool x21), (8, .bool x26), (9, .bool x33), (10, .bool true)]) (by kernel_rfl) ?_
                    refine OpsT.done ?_
                    have hI := hI.drop
                    have hI := hI.drop
                    have e := someS h1
                    subst e
                    exact Qn.thenJ fun a ha => ⟨true, rfl, ha.keep [6, 7, 8, 9, 10] (by kernel_rfl), hI⟩
                  · rw [if_neg hb41] at h1
                    have hb41 : (gt y7 4) = false := by simpa using hb41
                    refine OpsT.keep [1, 6, 7, 8, 9, 112] (S' := [(1, .pointer (some ⟨b2, 0, none⟩)), (6, .bool x14), (7, .bool x21), (8, .bool x26), (9, .bool x33), (112, .bool false)]) (by (try simp only [hb41]); kernel_rfl) ?_
                    refine OpsT.pures (r := [4, 5, 6, 7, 8]) [3] [6, 7, 8, 9, 112, 113] (S' := [(6, .bool x14), (7, .bool x21), (8, .bool x26), (9, .bool x33), (112, .bool false), (113, .pointer (some ⟨b2, 5, none⟩))]) (by kernel_rfl) ?_
                    refine OpsT.cons (Does.yi (Yl.load (d := 114) (T := 55) (v := .agg (cA (Value.int .u8) a0.Sum).toArray) (by kernel_rfl) (ldBN ty55 (l := c_ApiEvent a0) (o := 5) (cs := cA (Value.int .u8) a0.Sum) (pick2 _ _ _) ((cA_length _ _).trans hl1) (tail_take _ _ _ _ _ (by kernel_rfl) hl1))) hI ?_)
                    refine OpsT.pures (r := [6, 7, 8]) [5] [6, 7, 8, 9, 112, 114, 115] (S' := [(6, .bool x14), (7, .bool x21), (8, .bool x26), (9, .bool x33), (112, .bool false), (114, .agg (cA (Value.int .u8) a0.Sum).toArray), (115, .agg (cA (Value.int .u8) ([0, 0, 0, 0, 0, 0, 0, 0, 0, 0, 0, 0, 0, 0, 0, 0, 0, 0, 0, 0, 0, 0, 0, 0, 0, 0, 0, 0, 0, 0, 0, 0] : List Int)).toArray)]) (by kernel_rfl) ?_
                    refine OpsT.cons (Does.yi (Yl.eqlA (k := .u8) (d := 116) (T := 55) (xs := a0.Sum) (ys := ([0, 0, 0, 0, 0, 0, 0, 0, 0, 0, 0, 0, 0, 0, 0, 0, 0, 0, 0, 0, 0, 0, 0, 0, 0, 0, 0, 0, 0, 0, 0, 0] : List Int)) (by kernel_rfl) Go.Proofs.Try.underlying55 (by kernel_rfl) Go.Proofs.Try.underlying5 ty5 hl1 (by kernel_rfl)) hI ?_)
                    refine OpsT.pures (r := []) [7, 8] [6, 7, 8, 9, 10] (S' := [(6, .bool x14), (7, .bool x21), (8, .bool x26), (9, .bool x33), (10, .bool (eqA a0.Sum ([0, 0, 0, 0, 0, 0, 0, 0, 0, 0, 0, 0, 0, 0, 0, 0, 0, 0, 0, 0, 0, 0, 0, 0, 0, 0, 0, 0, 0, 0, 0, 0] : List Int)))]) (by kernel_rfl) ?_
                    refine OpsT.done ?_
                    have hI := hI.drop
                    have hI := hI.drop
                    have e := someS h1
                    subst e
                    exact Qn.thenJ fun a ha => ⟨eqA a0.Sum ([0, 0, 0, 0, 0, 0, 0, 0, 0, 0, 0, 0, 0, 0, 0, 0, 0, 0, 0, 0, 0, 0, 0, 0, 0, 0, 0, 0, 0, 0, 0, 0] : List Int), rfl, ha.keep [6, 7, 8, 9, 10] (by kernel_rfl), hI⟩
                ·
                  rintro a w ⟨x40, rfl, ha, hI⟩
                  try dsimp only at h0
                  refine CodT.of ?_ ha
                  obtain ⟨r1, h1, h0⟩ := bindS h0
                  refine CodT.meet (fun a w => ∃ (x42 : Bool), x42 = r1 ∧ Fr 131 [(2, .bool x42)] a ∧ Inv w0 Z w A) ?_ ?_
                  ·
                    refine CodT.regionL [0, 1, 2, 3, 4, 5, 6, 7, 8, 9, 10, 11, 12, 13] (by kernel_rfl) ?_
                    refine OpsT.pures (r := [2, 3, 4, 5, 6, 7, 8, 9, 10, 11, 12, 13]) [0, 1] [7, 8, 9, 10, 119] (S' := [(7, .bool x21), (8, .bool x26), (9, .bool x33), (10, .bool x40), (119, .bool x14)]) (by kernel_rfl) ?_
                    by_cases hb43 : x14 = true
                    · rw [if_pos hb43] at h1
                      refine OpsT.keep [7, 8, 9, 10, 119] (S' := [(7, .bool x21), (8, .bool x26), (9, .bool x33), (10, .bool x40), (119, .bool true)]) (by (try simp only [hb43]); kernel_rfl) ?_
                      refine OpsT.pures (r := [5, 6, 7, 8, 9, 10, 11, 12, 13]) [2, 3, 4] [8, 9, 10, 122] (S' := [(8, .bool x26), (9, .bool x33), (10, .bool x40), (122, .bool x21)]) (by kernel_rfl) ?_
                      by_cases hb44 : x21 = true
                      · rw [if_pos hb44] at h1
                        refine OpsT.keep [8, 9, 10, 122] (S' := [(8, .bool x26), (9, .bool x33), (10, .bool x40), (122, .bool true)]) (by (try simp only [hb44]); kernel_rfl) ?_
                        refine OpsT.pures (r := [8, 9, 10, 11, 12, 13]) [5, 6, 7] [9, 10, 125] (S' := [(9, .bool x33), (10, .bool x40), (125, .bool x26)]) (by kernel_rfl) ?_
                        by_cases hb45 : x26 = true
                        · rw [if_pos hb45] at h1
                          refine OpsT.keep [9, 10, 125] (S' := [(9, .bool x33), (10, .bool x40), (125, .bool true)]) (by (try simp only [hb45]); kernel_rfl) ?_
                          refine OpsT.pures (r := [11, 12, 13]) [8, 9, 10] [10, 128] (S' := [(10, .bool x40), (128, .bool x33)]) (by kernel_rfl) ?_
                          by_cases hb46 : x33 = true
                          · rw [if_pos hb46] at h1
                            refine OpsT.keep [10, 128] (S' := [(10, .bool x40), (128, .bool true)]) (by (try simp only [hb46]); kernel_rfl) ?_
                            refine OpsT.pures (r := []) [11, 12, 13] [2] (S' := [(2, .bool x40)]) (by kernel_rfl) ?_
                            refine OpsT.done ?_
                            have e := someS h1
                            subst e
                            exact Qn.thenJ fun a ha => ⟨x40, rfl, ha.keep [2] (by kernel_rfl), hI⟩
                          · rw [if_neg hb46] at h1
                            have hb46 : x33 = false := by simpa using hb46
                            refine OpsT.keep [10, 128] (S' := [(10, .bool x40), (128, .bool false)]) (by (try simp only [hb46]); kernel_rfl) ?_
                            refine OpsT.pures (r := []) [11, 12, 13] [2] (S' := [(2, .bool false)]) (by kernel_rfl) ?_
                            refine OpsT.done ?_
                            have e := someS h1
                            subst e
                            exact Qn.thenJ fun a ha => ⟨false, rfl, ha.keep [2] (by kernel_rfl), hI⟩
                        · rw [if_neg hb45] at h1
                          have hb45 : x26 = false := by simpa using hb45
                          refine OpsT.keep [9, 10, 125] (S' := [(9, .bool x33), (10, .bool x40), (125, .bool false)]) (by (try simp only [hb45]); kernel_rfl) ?_
                          refine OpsT.pures (r := []) [8, 9, 10, 11, 12, 13] [2] (S' := [(2, .bool false)]) (by kernel_rfl) ?_
                          refine OpsT.done ?_
                          have e := someS h1
                          subst e
                          exact Qn.thenJ fun a ha => ⟨false, rfl, ha.keep [2] (by kernel_rfl), hI⟩
                      · rw [if_neg hb44] at h1
                        have hb44 : x21 = false := by simpa using hb44
                        refine OpsT.keep [8, 9, 10, 122] (S' := [(8, .bool x26), (9, .bool x33), (10, .bool x40), (122, .bool false)]) (by (try simp only [hb44]); kernel_rfl) ?_
                        refine OpsT.pures (r := []) [5, 6, 7, 8, 9, 10, 11, 12, 13] [2] (S' := [(2, .bool false)]) (by kernel_rfl) ?_
                        refine OpsT.done ?_
                        have e := someS h1
                        subst e
                        exact Qn.thenJ fun a ha => ⟨false, rfl, ha.keep [2] (by kernel_rfl), hI⟩
                    · rw [if_neg hb43] at h1
                      have hb43 : x14 = false := by simpa using hb43
                      refine OpsT.keep [7, 8, 9, 10, 119] (S' := [(7, .bool x21), (8, .bool x26), (9, .bool x33), (10, .bool x40), (119, .bool false)]) (by (try simp only [hb43]); kernel_rfl) ?_
                      refine OpsT.pures (r := []) [2, 3, 4, 5, 6, 7, 8, 9, 10, 11, 12, 13] [2] (S' := [(2, .bool false)]) (by kernel_rfl) ?_
                      refine OpsT.done ?_
                      have e := someS h1
                      subst e
                      exact Qn.thenJ fun a ha => ⟨false, rfl, ha.keep [2] (by kernel_rfl), hI⟩
                  ·
                    rintro a w ⟨x42, rfl, ha, hI⟩
                    try dsimp only at h0
                    refine CodT.of ?_ ha
                    refine CodT.ret ?_
                    have e := someS h0
                    subst e
                    refine Qn.keep [2] (S' := [(2, .bool x42)]) (by kernel_rfl) ?_
                    exact post_ret (v := .bool x42) (fun a ha => RunRes.run (vs := [.bool x42]) (.tmp (t := 2) (by kernel_rfl) .nil) ha (by kernel_rfl)) ⟨rfl, hI⟩
set_option maxRecDepth 100000 in
set_option maxHeartbeats 4000000 in
/-- cenotaph/cenotaphref04.Num -/
theorem c51 (w0 w : World) (Z : Hp) (A : HP) (hI : Inv w0 Z w A) (a0 : Int) (r : ByteArray) (h0 : ref04_Num a0 = some r) :
    Calls prog 51 #[.int .i64 a0] w (fun e w' => e = .returned (.string r) ∧ Inv w0 Z w' A) := by
  have e4 := calls_intro (R := (fun e w' => e = .returned (.string r) ∧ Inv w0 Z w' A)) (w := w) (args := [.int .i64 a0]) (fn := Go.Proofs.Try.f51) 24 Go.Proofs.Try.func51 (by rfl) Go.Proofs.Try.ntmps51 (by kernel_rfl)
  refine e4 ?_
  clear e4
  unfold ref04_Num at h0
  refine CodT.seq ?_
  refine CodT.regionL [0] (by kernel_rfl) ?_
  refine OpsT.pures (r := []) [0] [0] (S' := [(0, .int .i64 a0)]) (by kernel_rfl) ?_
  refine OpsT.done ?_
  refine Qn.then ?_
  refine CodT.seq ?_
  refine CodT.regionL [0, 1, 2, 3] (by kernel_rfl) ?_
  refine OpsT.pures (r := []) [0, 1, 2, 3] [0] (S' := [(0, .int .i64 (if 1125899906842624 < (if 0 > a0 then 0 else a0) then 1125899906842624 else if 0 > a0 then 0 else a0))]) (by kernel_rfl) ?_
  refine OpsT.done ?_
  refine Qn.then ?_
  refine CodT.seq ?_
  refine CodT.regionL [0] (by kernel_rfl) ?_
  refine OpsT.pures (r := []) [0] [0, 3] (S' := [(0, .int .i64 (if 1125899906842624 < (if 0 > a0 then 0 else a0) then 1125899906842624 else if 0 > a0 then 0 else a0)), (3, .slice none 0 0)]) (by kernel_rfl) ?_
  refine OpsT.done ?_
  refine Qn.then ?_
  refine CodT.seq ?_
  obtain ⟨r1, h1, h0⟩ := bindS h0
  refine CodT.meet1 (fun a w => ∃ (x1 : Int) (x2 : (List Int)) (A3 : Option Addr) (cp4 : Nat), (x1, x2) = r1 ∧ Fr 24 [(0, .int .i64 x1), (3, .slice A3 x2.length cp4)] a ∧ Inv w0 Z w (star (ownS 5 (cI .u8) 1 A3 cp4 x2) A)) ?_ ?_
  ·
    refine CodT.block ?_
    have hI := ownS_nil (α := Int) hI 5 (cI .u8) 1
    refine (fun a ha => wp_loopN (fun k a w => ∃ (x5 : Int) (x6 : (List Int)) (A7 : Option Addr) (cp8 : Nat), ref04_Num.l0 k x5 x6 = some r1 ∧ Fr 24 [(0, .int .i64 x5), (3, .slice A7 x6.length cp8)] a ∧ Inv w0 Z w (star (ownS 5 (cI .u8) 1 A7 cp8 x6) A)) ?_ FU a w ⟨if 1125899906842624 < (if 0 > a0 then 0 else a0) then 1125899906842624 else if 0 > a0 then 0 else a0, ([] : List Int), none, 0, h1, ha.keep [0, 3] (by kernel_rfl), hI⟩)
    clear h1 hI
    rintro k a w ⟨x5, x6, A7, cp8, h1, ha, hI⟩
    rcases k with _ | k
    · cases h1
    simp only [ref04_Num.l0] at h1
    refine CodT.of ?_ ha
    refine CodT.seq ?_
    refine CodT.seq ?_
    refine CodT.regionL [0, 1] (by kernel_rfl) ?_
    refine OpsT.pures (r := []) [0, 1] [0, 3, 8] (S' := [(0, .int .i64 x5), (3, .slice A7 x6.length cp8), (8, .bool (decide (x5 ≥ 128)))]) (by kernel_rfl) ?_
    refine OpsT.done ?_
    refine Qn.then ?_
    by_cases hb9 : (decide (x5 ≥ 128)) = true
    · rw [if_pos hb9] at h1
      refine CodT.yes' (b := decide (x5 ≥ 128)) (by kernel_rfl) hb9 ?_
      refine CodT.skip ?_
      refine Qn.then ?_
      refine CodT.block ?_
      refine CodT.seq ?_
      refine CodT.regionL [0, 1, 2, 3, 4, 5, 6, 7] (by kernel_rfl) ?_
      refine OpsT.pures (r := [5, 6, 7]) [0, 1, 2, 3, 4] [0, 9, 13] (S' := [(0, .int .i64 x5), (9, .slice A7 x6.length cp8), (13, .int .u8 (wu8 (wi64 ((x5.tmod 128) + 128))))]) (by kernel_rfl) ?_
      refine OpsT.cons (Does.buildSlice (en := (cI .u8)) (d := 14) (n := 1) (T := 68) (ps := [(0, .int .u8 (wu8 (wi64 ((x5.tmod 128) + 128))))]) ([wu8 (wi64 ((x5.tmod 128) + 128))] : List Int) (by kernel_rfl) Go.Proofs.Try.underlying68 ty5 (by kernel_rfl) (by kernel_rfl) (by kernel_rfl) (by kernel_rfl) (len_all (fun _ => rfl)) hI ?_)
      intro b10 w hI
      obtain ⟨hg11, h1⟩ := guardS h1
      have hI := hI.mono (pick2 _ _ _)
      refine OpsT.cons (Does.append (d := 15) (t := 68) (tx := 68) (ty := 68) (ys := x6) (zs := ([wu8 (wi64 ((x5.tmod 128) + 128))] : List Int)) (x := .slice (some ⟨b10, 0, none⟩) (([wu8 (wi64 ((x5.tmod 128) + 128))] : List Int).length) 1) (by kernel_rfl) Go.Proofs.Try.underlying68 ty5 (by kernel_rfl) hI (src_own Go.Proofs.Try.underlying68 (hI.mono (pick2 _ _ _)) (one_flat _ (fun _ => rfl))) (ownS_facts (hI.mono (pick2 _ _ _))).2.2 (by unfold LIM at hg11; omega) hg11 ?_)
      intro A12 cp13 w hI
      refine OpsT.pures (r := []) [7] [0, 3] (S' := [(0, .int .i64 x5), (3, .slice A12 ((x6 ++ ([wu8 (wi64 ((x5.tmod 128) + 128))] : List Int)).length) cp13)]) (by kernel_rfl) ?_
      refine OpsT.done ?_
      refine Qn.then ?_
      refine CodT.regionL [0, 1, 2] (by kernel_rfl) ?_
      refine OpsT.pures (r := []) [0, 1, 2] [0, 3] (S' := [(0, .int .i64 (wi64 (x5.tdiv 128))), (3, .slice A12 ((x6 ++ ([wu8 (wi64 ((x5.tmod 128) + 128))] : List Int)).length) cp13)]) (by kernel_rfl) ?_
      refine OpsT.done ?_
      refine Qn.block_normal ?_
      have hI := hI.mono (pick2 _ _ _)
      have hI := hI.drop
      exact Qn.thenJ fun a ha => ⟨k, Nat.lt_succ_self k, wi64 (x5.tdiv 128), x6 ++ ([wu8 (wi64 ((x5.tmod 128) + 128))] : List Int), A12, cp13, h1, ha.keep [0, 3] (by kernel_rfl), hI⟩
    · rw [if_neg hb9] at h1
      refine CodT.no' (b := decide (x5 ≥ 128)) (by kernel_rfl) (by simpa using hb9) ?_
      refine CodT.exit ?_
      refine Qn.exit_then ?_
      refine Qn.exit_then ?_
      refine Qn.block ?_
      have e := someS h1
      subst e
      exact Qn.thenJ fun a ha => ⟨x5, x6, A7, cp8, rfl, ha.keep [0, 3] (by kernel_rfl), hI⟩
  ·
    rintro a w ⟨x1, x2, A3, cp4, rfl, ha, hI⟩
    try dsimp only at h0
    refine Qn.of ?_ ha
    refine Qn.then ?_
    refine CodT.seq ?_
    refine CodT.regionL [0, 1, 2, 3, 4, 5, 6] (by kernel_rfl) ?_
    refine OpsT.pures (r := [3, 4, 5, 6]) [0, 1, 2] [18, 20] (S' := [(18, .slice A3 x2.length cp4), (20, .int .u8 (wu8 x1))]) (by kernel_rfl) ?_
    refine OpsT.cons (Does.buildSlice (en := (cI .u8)) (d := 21) (n := 1) (T := 68) (ps := [(0, .int .u8 (wu8 x1))]) ([wu8 x1] : List Int) (by kernel_rfl) Go.Proofs.Try.underlying68 ty5 (by kernel_rfl) (by kernel_rfl) (by kernel_rfl) (by kernel_rfl) (len_all (fun _ => rfl)) hI ?_)
    intro b14 w hI
    obtain ⟨hg15, h0⟩ := guardS h0
    have hI := hI.mono (pick2 _ _ _)
    refine OpsT.cons (Does.append (d := 22) (t := 68) (tx := 68) (ty := 68) (ys := x2) (zs := ([wu8 x1] : List Int)) (x := .slice (some ⟨b14, 0, none⟩) (([wu8 x1] : List Int).length) 1) (by kernel_rfl) Go.Proofs.Try.underlying68 ty5 (by kernel_rfl) hI (src_own Go.Proofs.Try.underlying68 (hI.mono (pick2 _ _ _)) (one_flat _ (fun _ => rfl))) (ownS_facts (hI.mono (pick2 _ _ _))).2.2 (by unfold LIM at hg15; omega) hg15 ?_)
    intro A16 cp17 w hI
    refine OpsT.cons (Does.b2sOwn (d := 23) (src := 68) (dst := 9) (xs := x2 ++ ([wu8 x1] : List Int)) (by kernel_rfl) Go.Proofs.Try.underlying68 Go.Proofs.Try.underlying5 Go.Proofs.Try.underlying9 hI ?_)
    refine OpsT.pures (r := []) [6] [2] (S' := [(2, .string (strOfNums (x2 ++ ([wu8 x1] : List Int))))]) (by kernel_rfl) ?_
    refine OpsT.done ?_
    refine Qn.then ?_
    refine CodT.ret ?_
    have hI := hI.drop
    have hI := hI.drop
    have e := someS h0
    subst e
    refine Qn.keep [2] (S' := [(2, .string (strOfNums (x2 ++ ([wu8 x1] : List Int))))]) (by kernel_rfl) ?_
    exact post_ret (v := .string (strOfNums (x2 ++ ([wu8 x1] : List Int)))) (fun a ha => RunRes.run (vs := [.string (strOfNums (x2 ++ ([wu8 x1] : List Int)))]) (.tmp (t := 2) (by kernel_rfl) .nil) ha (by kernel_rfl)) ⟨rfl, hI⟩
set_option maxRecDepth 100000 in
set_option maxHeartbeats 4000000 in
/-- cenotaph/cenotaphref04.Text -/
theorem c100 (w0 w : World) (Z : Hp) (A : HP) (hI : Inv w0 Z w A) (a0 : ByteArray) (r : ByteArray) (h0 : ref04_Text a0 = some r) :
    Calls prog 100 #[.string a0] w (fun e w' => e = .returned (.string r) ∧ Inv w0 Z w' A) := by
  have e4 := calls_intro (R := (fun e w' => e = .returned (.string r) ∧ Inv w0 Z w' A)) (w := w) (args := [.string a0]) (fn := Go.Proofs.Try.f100) 8 Go.Proofs.Try.func100 (by rfl) Go.Proofs.Try.ntmps100 (by kernel_rfl)
  refine e4 ?_
  clear e4
  unfold ref04_Text at h0
  refine CodT.seq ?_
  refine CodT.regionL [0] (by kernel_rfl) ?_
  refine OpsT.pures (r := []) [0] [0] (S' := [(0, .string a0)]) (by kernel_rfl) ?_
  refine OpsT.done ?_
  refine Qn.then ?_
  refine CodT.seq ?_
  refine CodT.regionL [0, 1, 2, 3, 4, 5] (by kernel_rfl) ?_
  refine OpsT.pures (r := [2, 3, 4, 5]) [0, 1] [0, 4] (S' := [(0, .string a0), (4, .int .i64 (a0.size : Int))]) (by kernel_rfl) ?_
  obtain ⟨y2, hc1, h0⟩ := bindS h0
  try dsimp only at h0
  refine OpsT.cons (Does.call (d := some 5) (n := 51) (vs := [.int .i64 (a0.size : Int)]) (by kernel_rfl) en51 (c51 w0 w _ _ hI (a0.size : Int) _ hc1) ?_)
  rintro e w ⟨rfl, hI⟩
  refine ⟨_, rfl, ?_⟩
  refine OpsT.pures (r := [4, 5]) [3] [5, 6] (S' := [(5, .string y2), (6, .string a0)]) (by kernel_rfl) ?_
  obtain ⟨hg3, h0⟩ := guardS h0
  refine OpsT.cons (Does.yi (Yl.cat (d := 7) (T := 9) (x := y2) (y := a0) (by kernel_rfl) hg3) hI ?_)
  refine OpsT.pures (r := []) [5] [2] (S' := [(2, .string (y2 ++ a0))]) (by kernel_rfl) ?_
  refine OpsT.done ?_
  refine Qn.then ?_
  refine CodT.ret ?_
  have e := someS h0
  subst e
  refine Qn.keep [2] (S' := [(2, .string (y2 ++ a0))]) (by kernel_rfl) ?_
  exact post_ret (v := .string (y2 ++ a0)) (fun a ha => RunRes.run (vs := [.string (y2 ++ a0)]) (.tmp (t := 2) (by kernel_rfl) .nil) ha (by kernel_rfl)) ⟨rfl, hI⟩
set_option maxRecDepth 100000 in
set_option maxHeartbeats 4000000 in
/-- cenotaph/cenotaphref02.Bytes -/
theorem c102 (w0 w : World) (Z : Hp) (A : HP) (hI : Inv w0 Z w A) (a0 : (List Int)) (hl_a0 : a0.length = 32) (r : ByteArray) (h0 : ref02_Bytes a0 = some r) :
    Calls prog 102 #[.agg (cA (Value.int .u8) a0).toArray] w (fun e w' => e = .returned (.string r) ∧ Inv w0 Z w' A) := by
  have e4 := calls_intro (R := (fun e w' => e = .returned (.string r) ∧ Inv w0 Z w' A)) (w := w) (args := [.agg (cA (Value.int .u8) a0).toArray]) (fn := Go.Proofs.Try.f102) 17 Go.Proofs.Try.func102 (by rfl) Go.Proofs.Try.ntmps102 (by kernel_rfl)
  refine e4 ?_
  clear e4
  unfold ref02_Bytes at h0
  refine CodT.seq ?_
  refine CodT.regionL [0, 1] (by kernel_rfl) ?_
  refine OpsT.cons (Does.boxL (d := 1) (T := 55) (v := .agg (cA (Value.int .u8) a0).toArray) (cA (Value.int .u8) a0) (by kernel_rfl) hI (by kernel_rfl) ?_)
  intro b1 w hI
  refine OpsT.pures (r := []) [1] [1] (S' := [(1, .pointer (some ⟨b1, 0, none⟩))]) (by kernel_rfl) ?_
  refine OpsT.done ?_
  refine Qn.then ?_
  refine CodT.seq ?_
  refine CodT.regionL [0] (by kernel_rfl) ?_
  refine OpsT.pures (r := []) [0] [1, 3] (S' := [(1, .pointer (some ⟨b1, 0, none⟩)), (3, .slice none 0 0)]) (by kernel_rfl) ?_
  refine OpsT.done ?_
  refine Qn.then ?_
  refine CodT.seq ?_
  refine CodT.seq ?_
  refine CodT.regionL [0] (by kernel_rfl) ?_
  refine OpsT.pures (r := []) [0] [1, 3, 4] (S' := [(1, .pointer (some ⟨b1, 0, none⟩)), (3, .slice none 0 0), (4, .int .i64 0)]) (by kernel_rfl) ?_
  refine OpsT.done ?_
  refine Qn.then ?_
  obtain ⟨r1, h1, h0⟩ := bindS h0
  refine CodT.meet1 (fun a w => ∃ (x2 : (List Int)) (A3 : Option Addr) (cp4 : Nat), x2 = r1 ∧ Fr 17 [(3, .slice A3 x2.length cp4)] a ∧ Inv w0 Z w (star (ownS 5 (cI .u8) 1 A3 cp4 x2) A)) ?_ ?_
  ·
    refine CodT.block ?_
    have hI := ownS_nil (α := Int) hI 5 (cI .u8) 1
    refine (fun a ha => wp_loopN (fun k a w => ∃ (x5 : (List Int)) (x8 : Int) (A6 : Option Addr) (cp7 : Nat), ref02_Bytes.l0 a0 k x5 x8 = some r1 ∧ Fr 17 [(1, .pointer (some ⟨b1, 0, none⟩)), (3, .slice A6 x5.length cp7), (4, .int .i64 x8)] a ∧ Inv w0 Z w (star (ownS 5 (cI .u8) 1 A6 cp7 x5) (star (pt b1 (.cells (cA (Value.int .u8) a0).toArray 55 (0, 0))) A))) ?_ FU a w ⟨([] : List Int), 0, none, 0, h1, ha.keep [1, 3, 4] (by kernel_rfl), hI⟩)
    clear h1 hI
    rintro k a w ⟨x5, x8, A6, cp7, h1, ha, hI⟩
    rcases k with _ | k
    · cases h1
    simp only [ref02_Bytes.l0] at h1
    refine CodT.of ?_ ha
    refine CodT.seq ?_
    refine CodT.seq ?_
    refine CodT.regionL [0, 1] (by kernel_rfl) ?_
    refine OpsT.pures (r := []) [0, 1] [1, 3, 4, 6] (S' := [(1, .pointer (some ⟨b1, 0, none⟩)), (3, .slice A6 x5.length cp7), (4, .int .i64 x8), (6, .bool (decide (x8 < 32)))]) (by kernel_rfl) ?_
    refine OpsT.done ?_
    refine Qn.then ?_
    by_cases hb9 : (decide (x8 < 32)) = true
    · rw [if_pos hb9] at h1
      refine CodT.yes' (b := decide (x8 < 32)) (by kernel_rfl) hb9 ?_
      refine CodT.skip ?_
      refine Qn.then ?_
      refine CodT.seq ?_
      refine CodT.block ?_
      refine CodT.regionL [0, 1, 2, 3, 4, 5, 6] (by kernel_rfl) ?_
      refine OpsT.pures (r := [2, 3, 4, 5, 6]) [0, 1] [1, 4, 9, 10] (S' := [(1, .pointer (some ⟨b1, 0, none⟩)), (4, .int .i64 x8), (9, .slice A6 x5.length cp7), (10, .int .i64 x8)]) (by kernel_rfl) ?_
      obtain ⟨hg10, h1⟩ := guardS h1
      refine OpsT.cons (Does.yi (Yl.indexArr (d := 11) (T := 55) (k := .i64) (j := x8) (g := b1) (o := 0) (by kernel_rfl) Go.Proofs.Try.underlying55 ty5 hg10.1 hg10.2) hI ?_)
      refine OpsT.cons (Does.yi (Yl.load (d := 12) (T := 5) (v := .int .u8 (gt a0 x8)) (by kernel_rfl) (ldB ty5 (l := cA (Value.int .u8) a0) (o := 0 + x8.toNat * 1) (v := .int .u8 (gt a0 x8)) (pick2 _ _ _) (arr_get _ _ hg10.1 (by have := And.intro hl_a0 hg10.2; omega)))) hI ?_)
      refine OpsT.cons (Does.buildSlice (en := (cI .u8)) (d := 13) (n := 1) (T := 68) (ps := [(0, .int .u8 (gt a0 x8))]) ([gt a0 x8] : List Int) (by kernel_rfl) Go.Proofs.Try.underlying68 ty5 (by kernel_rfl) (by kernel_rfl) (by kernel_rfl) (by kernel_rfl) (len_all (fun _ => rfl)) hI ?_)
      intro b11 w hI
      obtain ⟨hg12, h1⟩ := guardS h1
      have hI := hI.mono (pick2 _ _ _)
      refine OpsT.cons (Does.append (d := 14) (t := 68) (tx := 68) (ty := 68) (ys := x5) (zs := ([gt a0 x8] : List Int)) (x := .slice (some ⟨b11, 0, none⟩) (([gt a0 x8] : List Int).length) 1) (by kernel_rfl) Go.Proofs.Try.underlying68 ty5 (by kernel_rfl) hI (src_own Go.Proofs.Try.underlying68 (hI.mono (pick2 _ _ _)) (one_flat _ (fun _ => rfl))) (ownS_facts (hI.mono (pick2 _ _ _))).2.2 (by unfold LIM at hg12; omega) hg12 ?_)
      intro A13 cp14 w hI
      refine OpsT.pures (r := []) [6] [1, 3, 4] (S' := [(1, .pointer (some ⟨b1, 0, none⟩)), (3, .slice A13 ((x5 ++ ([gt a0 x8] : List Int)).length) cp14), (4, .int .i64 x8)]) (by kernel_rfl) ?_
      refine OpsT.done ?_
      refine Qn.block_normal ?_
      refine Qn.then ?_
      refine CodT.regionL [0, 1, 2] (by kernel_rfl) ?_
      refine OpsT.pures (r := []) [0, 1, 2] [1, 3, 4] (S' := [(1, .pointer (some ⟨b1, 0, none⟩)), (3, .slice A13 ((x5 ++ ([gt a0 x8] : List Int)).length) cp14), (4, .int .i64 (wi64 (x8 + 1)))]) (by kernel_rfl) ?_
      refine OpsT.done ?_
      have hI := hI.mono (pick2 _ _ _)
      have hI := hI.drop
      exact Qn.thenJ fun a ha => ⟨k, Nat.lt_succ_self k, x5 ++ ([gt a0 x8] : List Int), wi64 (x8 + 1), A13, cp14, h1, ha.keep [1, 3, 4] (by kernel_rfl), hI⟩
    · rw [if_neg hb9] at h1
      refine CodT.no' (b := decide (x8 < 32)) (by kernel_rfl) (by simpa using hb9) ?_
      refine CodT.exit ?_
      refine Qn.exit_then ?_
      refine Qn.exit_then ?_
      refine Qn.block ?_
      have hI := hI.mono (pick2 _ _ _)
      have hI := hI.drop
      have e := someS h1
      subst e
      exact Qn.thenJ fun a ha => ⟨x5, A6, cp7, rfl, ha.keep [3] (by kernel_rfl), hI⟩
  ·
    rintro a w ⟨x2, A3, cp4, rfl, ha, hI⟩
    try dsimp only at h0
    refine Qn.of ?_ ha
    refine Qn.then ?_
    refine CodT.seq ?_
    refine CodT.regionL [0, 1, 2] (by kernel_rfl) ?_
    refine OpsT.pures (r := [1, 2]) [0] [15] (S' := [(15, .slice A3 x2.length cp4)]) (by kernel_rfl) ?_
    refine OpsT.cons (Does.b2sOwn (d := 16) (src := 68) (dst := 9) (xs := x2) (by kernel_rfl) Go.Proofs.Try.underlying68 Go.Proofs.Try.underlying5 Go.Proofs.Try.underlying9 hI ?_)
    refine OpsT.pures (r := []) [2] [2] (S' := [(2, .string (strOfNums x2))]) (by kernel_rfl) ?_
    refine OpsT.done ?_
    refine Qn.then ?_
    refine CodT.ret ?_
    have hI := hI.drop
    have e := someS h0
    subst e
    refine Qn.keep [2] (S' := [(2, .string (strOfNums x2))]) (by kernel_rfl) ?_
    exact post_ret (v := .string (strOfNums x2)) (fun a ha => RunRes.run (vs := [.string (strOfNums x2)]) (.tmp (t := 2) (by kernel_rfl) .nil) ha (by kernel_rfl)) ⟨rfl, hI⟩
set_option maxRecDepth 100000 in
set_option maxHeartbeats 4000000 in
/-- cenotaph/cenotaphref04.Sum -/
theorem c101 (w0 w : World) (Z : Hp) (A : HP) (hI : Inv w0 Z w A) (a0 : (List Int)) (hl_a0 : a0.length = 32) (r : ByteArray) (h0 : ref04_Sum a0 = some r) :
    Calls prog 101 #[.agg (cA (Value.int .u8) a0).toArray] w (fun e w' => e = .returned (.string r) ∧ Inv w0 Z w' A) := by
  have e4 := calls_intro (R := (fun e w' => e = .returned (.string r) ∧ Inv w0 Z w' A)) (w := w) (args := [.agg (cA (Value.int .u8) a0).toArray]) (fn := Go.Proofs.Try.f101) 5 Go.Proofs.Try.func101 (by rfl) Go.Proofs.Try.ntmps101 (by kernel_rfl)
  refine e4 ?_
  clear e4
  unfold ref04_Sum at h0
  refine CodT.seq ?_
  refine CodT.regionL [0, 1] (by kernel_rfl) ?_
  refine OpsT.cons (Does.boxL (d := 1) (T := 55) (v := .agg (cA (Value.int .u8) a0).toArray) (cA (Value.int .u8) a0) (by kernel_rfl) hI (by kernel_rfl) ?_)
  intro b1 w hI
  refine OpsT.pures (r := []) [1] [1] (S' := [(1, .pointer (some ⟨b1, 0, none⟩))]) (by kernel_rfl) ?_
  refine OpsT.done ?_
  refine Qn.then ?_
  refine CodT.seq ?_
  refine CodT.regionL [0, 1, 2] (by kernel_rfl) ?_
  refine OpsT.cons (Does.yi (Yl.load (d := 3) (T := 55) (v := .agg (cA (Value.int .u8) a0).toArray) (by kernel_rfl) (ldBN ty55 (l := cA (Value.int .u8) a0) (o := 0) (cs := cA (Value.int .u8) a0) (ent_refl _) ((cA_length _ _).trans hl_a0) (whole _ _ ((cA_length _ _).trans hl_a0)))) hI ?_)
  obtain ⟨y3, hc2, h0⟩ := bindS h0
  try dsimp only at h0
  refine OpsT.cons (Does.call (d := some 4) (n := 102) (vs := [.agg (cA (Value.int .u8) a0).toArray]) (by kernel_rfl) en102 (c102 w0 w _ _ hI a0 hl_a0 _ hc2) ?_)
  rintro e w ⟨rfl, hI⟩
  refine ⟨_, rfl, ?_⟩
  refine OpsT.pures (r := []) [2] [2] (S' := [(2, .string y3)]) (by kernel_rfl) ?_
  refine OpsT.done ?_
  refine Qn.then ?_
  refine CodT.ret ?_
  have hI := hI.drop
  have e := someS h0
  subst e
  refine Qn.keep [2] (S' := [(2, .string y3)]) (by kernel_rfl) ?_
  exact post_ret (v := .string y3) (fun a ha => RunRes.run (vs := [.string y3]) (.tmp (t := 2) (by kernel_rfl) .nil) ha (by kernel_rfl)) ⟨rfl, hI⟩
set_option maxRecDepth 100000 in
set_option maxHeartbeats 4000000 in
/-- cenotaph/cenotaphref05.Put -/
theorem c74 (w0 w : World) (Z : Hp) (A : HP) (hI : Inv w0 Z w A) (a0 : ApiEvent) (hl1 : a0.Sum.length = 32) (r : (ByteArray × Bool)) (h0 : ref05_Put a0 = some r) :
    Calls prog 74 #[.agg (c_ApiEvent a0).toArray] w (fun e w' => e = .returned (.tuple #[.string r.1, .bool r.2]) ∧ Inv w0 Z w' A) := by
  have e4 := calls_intro (R := (fun e w' => e = .returned (.tuple #[.string r.1, .bool r.2]) ∧ Inv w0 Z w' A)) (w := w) (args := [.agg (c_ApiEvent a0).toArray]) (fn := Go.Proofs.Try.f74) 53 Go.Proofs.Try.func74 (by rfl) Go.Proofs.Try.ntmps74 (by kernel_rfl)
  refine e4 ?_
  clear e4
  unfold ref05_Put at h0
  refine CodT.seq ?_
  refine CodT.regionL [0, 1, 2] (by kernel_rfl) ?_
  refine OpsT.cons (Does.boxL (d := 1) (T := 65) (v := .agg (c_ApiEvent a0).toArray) (c_ApiEvent a0) (by kernel_rfl) hI (by kernel_rfl) ?_)
  intro b2 w hI
  refine OpsT.pures (r := []) [1, 2] [1] (S' := [(1, .pointer (some ⟨b2, 0, none⟩))]) (by kernel_rfl) ?_
  refine OpsT.done ?_
  refine Qn.then ?_
  refine CodT.seq ?_
  refine CodT.regionL [0, 1, 2] (by kernel_rfl) ?_
  refine OpsT.cons (Does.yi (Yl.load (d := 7) (T := 65) (v := .agg (c_ApiEvent a0).toArray) (by kernel_rfl) (ldBN ty65 (l := c_ApiEvent a0) (o := 0) (cs := c_ApiEvent a0) (ent_refl _) (len_ApiEvent _ hl1) (whole _ _ (len_ApiEvent _ hl1)))) hI ?_)
  obtain ⟨y4, hc3, h0⟩ := bindS h0
  try dsimp only at h0
  refine OpsT.cons (Does.call (d := some 8) (n := 98) (vs := [.agg (c_ApiEvent a0).toArray]) (by kernel_rfl) en98 (c98 w0 w _ _ hI a0 hl1 _ hc3) ?_)
  rintro e w ⟨rfl, hI⟩
  refine ⟨_, rfl, ?_⟩
  refine OpsT.pures (r := []) [2] [1, 4] (S' := [(1, .pointer (some ⟨b2, 0, none⟩)), (4, .bool y4)]) (by kernel_rfl) ?_
  refine OpsT.done ?_
  refine Qn.then ?_
  refine CodT.seq ?_
  refine CodT.seq ?_
  refine CodT.regionL [0, 1] (by kernel_rfl) ?_
  refine OpsT.pures (r := []) [0, 1] [1, 10] (S' := [(1, .pointer (some ⟨b2, 0, none⟩)), (10, .bool (!y4))]) (by kernel_rfl) ?_
  refine OpsT.done ?_
  refine Qn.then ?_
  by_cases hb5 : (!y4) = true
  · rw [if_pos hb5] at h0
    refine CodT.yes' (b := !y4) (by kernel_rfl) hb5 ?_
    refine CodT.seq ?_
    refine CodT.regionL [0, 1] (by kernel_rfl) ?_
    refine OpsT.pures (r := []) [0, 1] [2, 3] (S' := [(2, .string (⟨#[]⟩ : ByteArray)), (3, .bool false)]) (by kernel_rfl) ?_
    refine OpsT.done ?_
    refine Qn.then ?_
    refine CodT.ret ?_
    refine Qn.ret_then ?_
    have hI := hI.drop
    have e := someS h0
    subst e
    refine Qn.keep [2, 3] (S' := [(2, .string (⟨#[]⟩ : ByteArray)), (3, .bool false)]) (by kernel_rfl) ?_
    exact post_ret (v := .tuple #[.string (⟨#[]⟩ : ByteArray), .bool false]) (fun a ha => RunRes.run (vs := [.string (⟨#[]⟩ : ByteArray), .bool false]) (.tmp (t := 2) (by kernel_rfl) (.tmp (t := 3) (by kernel_rfl) .nil)) ha (by kernel_rfl)) ⟨rfl, hI⟩
  · rw [if_neg hb5] at h0
    refine CodT.no' (b := !y4) (by kernel_rfl) (by simpa using hb5) ?_
    refine CodT.skip ?_
    refine Qn.then ?_
    refine CodT.seq ?_
    refine CodT.regionL [0, 1, 2, 3, 4] (by kernel_rfl) ?_
    refine OpsT.pures (r := [1, 2, 3, 4]) [0] [1, 11] (S' := [(1, .pointer (some ⟨b2, 0, none⟩)), (11, .pointer (some ⟨b2, 0, none⟩))]) (by kernel_rfl) ?_
    refine OpsT.cons (Does.yi (Yl.load (d := 12) (T := 63) (v := .int .i64 a0.Kind) (by kernel_rfl) (ldB ty63 (l := c_ApiEvent a0) (o := 0) (v := .int .i64 a0.Kind) (ent_refl _) (by kernel_rfl))) hI ?_)
    obtain ⟨y7, hc6, h0⟩ := bindS h0
    try dsimp only at h0
    refine OpsT.cons (Does.call (d := some 13) (n := 99) (vs := [.int .i64 a0.Kind]) (by kernel_rfl) en99 (c99 w0 w _ _ hI a0.Kind _ hc6) ?_)
    rintro e w ⟨rfl, hl8, hI⟩
    refine ⟨_, rfl, ?_⟩
    refine OpsT.cons (Does.allocL (d := 5) (T := 144) (cA Value.bool (List.replicate 5 (false : Bool))) (by kernel_rfl) ty144 hI (by kernel_rfl) ?_)
    intro b9 w hI
    refine OpsT.cons (Does.storeAll (T := 144) (b := b9) (n := 5) (xs := (List.replicate 5 (false : Bool))) (ys := y7) (by kernel_rfl) ty144 hI (fun _ => rfl) (by kernel_rfl) hl8 ?_)
    intro w hI
    refine OpsT.done ?_
    refine Qn.then ?_
    refine CodT.seq ?_
    refine CodT.regionL [0, 1, 2, 3] (by kernel_rfl) ?_
    refine OpsT.pures (r := [1, 2, 3]) [0] [1, 5, 14] (S' := [(1, .pointer (some ⟨b2, 0, none⟩)), (5, .pointer (some ⟨b9, 0, none⟩)), (14, .pointer (some ⟨b2, 0, none⟩))]) (by kernel_rfl) ?_
    refine OpsT.cons (Does.yi (Yl.load (d := 15) (T := 63) (v := .int .i64 a0.Kind) (by kernel_rfl) (ldB ty63 (l := c_ApiEvent a0) (o := 0) (v := .int .i64 a0.Kind) (pick2 _ _ _) (by kernel_rfl))) hI ?_)
    obtain ⟨y11, hc10, h0⟩ := bindS h0
    try dsimp only at h0
    refine OpsT.cons (Does.call (d := some 16) (n := 51) (vs := [.int .i64 a0.Kind]) (by kernel_rfl) en51 (c51 w0 w _ _ hI a0.Kind _ hc10) ?_)
    rintro e w ⟨rfl, hI⟩
    refine ⟨_, rfl, ?_⟩
    refine OpsT.pures (r := []) [3] [1, 5, 6] (S' := [(1, .pointer (some ⟨b2, 0, none⟩)), (5, .pointer (some ⟨b9, 0, none⟩)), (6, .string y11)]) (by kernel_rfl) ?_
    refine OpsT.done ?_
    refine Qn.then ?_
    obtain ⟨r1, h1, h0⟩ := bindS h0
    refine CodT.meet (fun a w => ∃ (x12 : ByteArray), x12 = r1 ∧ Fr 53 [(1, .pointer (some ⟨b2, 0, none⟩)), (5, .pointer (some ⟨b9, 0, none⟩)), (6, .string x12)] a ∧ Inv w0 Z w (star (pt b9 (.cells (cA Value.bool y7).toArray 144 (0, 0))) (star (pt b2 (.cells (c_ApiEvent a0).toArray 65 (0, 0))) A))) ?_ ?_
    ·
      refine CodT.seq ?_
      refine CodT.regionL [0, 1] (by kernel_rfl) ?_
      refine OpsT.pures (r := [1]) [0] [1, 5, 6, 17] (S' := [(1, .pointer (some ⟨b2, 0, none⟩)), (5, .pointer (some ⟨b9, 0, none⟩)), (6, .string y11), (17, .pointer (some ⟨b9, 0, none⟩))]) (by kernel_rfl) ?_
      refine OpsT.cons (Does.yi (Yl.load (d := 18) (T := 4) (v := .bool (gt y7 0)) (by kernel_rfl) (ldB ty4 (l := cA Value.bool y7) (o := 0) (v := .bool (gt y7 0)) (ent_refl _) (arr_getC _ _ 0 hl8 (by kernel_rfl)))) hI ?_)
      refine OpsT.done ?_
      refine Qn.then ?_
      by_cases hb13 : (gt y7 0) = true
      · rw [if_pos hb13] at h1
        refine CodT.yes' (b := gt y7 0) (by kernel_rfl) hb13 ?_
        refine CodT.regionL [0, 1, 2, 3, 4, 5] (by kernel_rfl) ?_
        refine OpsT.pures (r := [2, 3, 4, 5]) [0, 1] [1, 5, 19, 20] (S' := [(1, .pointer (some ⟨b2, 0, none⟩)), (5, .pointer (some ⟨b9, 0, none⟩)), (19, .string y11), (20, .pointer (some ⟨b2, 1, none⟩))]) (by kernel_rfl) ?_
        refine OpsT.cons (Does.yi (Yl.load (d := 21) (T := 3) (v := .int .i64 a0.ID) (by kernel_rfl) (ldB ty3 (l := c_ApiEvent a0) (o := 1) (v := .int .i64 a0.ID) (pick2 _ _ _) (by kernel_rfl))) hI ?_)
        obtain ⟨y15, hc14, h1⟩ := bindS h1
        try dsimp only at h1
        refine OpsT.cons (Does.call (d := some 22) (n := 51) (vs := [.int .i64 a0.ID]) (by kernel_rfl) en51 (c51 w0 w _ _ hI a0.ID _ hc14) ?_)
        rintro e w ⟨rfl, hI⟩
        refine ⟨_, rfl, ?_⟩
        obtain ⟨hg16, h1⟩ := guardS h1
        refine OpsT.cons (Does.yi (Yl.cat (d := 23) (T := 9) (x := y11) (y := y15) (by kernel_rfl) hg16) hI ?_)
        refine OpsT.pures (r := []) [5] [1, 5, 6] (S' := [(1, .pointer (some ⟨b2, 0, none⟩)), (5, .pointer (some ⟨b9, 0, none⟩)), (6, .string (y11 ++ y15))]) (by kernel_rfl) ?_
        refine OpsT.done ?_
        have e := someS h1
        subst e
        exact Qn.thenJ fun a ha => ⟨y11 ++ y15, rfl, ha.keep [1, 5, 6] (by kernel_rfl), hI⟩
      · rw [if_neg hb13] at h1
        refine CodT.no' (b := gt y7 0) (by kernel_rfl) (by simpa using hb13) ?_
        refine CodT.skip ?_
        have e := someS h1
        subst e
        exact Qn.thenJ fun a ha => ⟨y11, rfl, ha.keep [1, 5, 6] (by kernel_rfl), hI⟩
    ·
      rintro a w ⟨x12, rfl, ha, hI⟩
      try dsimp only at h0
      refine CodT.of ?_ ha
      obtain ⟨r1, h1, h0⟩ := bindS h0
      refine CodT.meet (fun a w => ∃ (x17 : ByteArray), x17 = r1 ∧ Fr 53 [(1, .pointer (some ⟨b2, 0, none⟩)), (5, .pointer (some ⟨b9, 0, none⟩)), (6, .string x17)] a ∧ Inv w0 Z w (star (pt b9 (.cells (cA Value.bool y7).toArray 144 (0, 0))) (star (pt b2 (.cells (c_ApiEvent a0).toArray 65 (0, 0))) A))) ?_ ?_
      ·
        refine CodT.seq ?_
        refine CodT.regionL [0, 1] (by kernel_rfl) ?_
        refine OpsT.pures (r := [1]) [0] [1, 5, 6, 24] (S' := [(1, .pointer (some ⟨b2, 0, none⟩)), (5, .pointer (some ⟨b9, 0, none⟩)), (6, .string x12), (24, .pointer (some ⟨b9, 1, none⟩))]) (by kernel_rfl) ?_
        refine OpsT.cons (Does.yi (Yl.load (d := 25) (T := 4) (v := .bool (gt y7 1)) (by kernel_rfl) (ldB ty4 (l := cA Value.bool y7) (o := 1) (v := .bool (gt y7 1)) (ent_refl _) (arr_getC _ _ 1 hl8 (by kernel_rfl)))) hI ?_)
        refine OpsT.done ?_
        refine Qn.then ?_
        by_cases hb18 : (gt y7 1) = true
        · rw [if_pos hb18] at h1
          refine CodT.yes' (b := gt y7 1) (by kernel_rfl) hb18 ?_
          refine CodT.regionL [0, 1, 2, 3, 4, 5] (by kernel_rfl) ?_
          refine OpsT.pures (r := [2, 3, 4, 5]) [0, 1] [1, 5, 26, 27] (S' := [(1, .pointer (some ⟨b2, 0, none⟩)), (5, .pointer (some ⟨b9, 0, none⟩)), (26, .string x12), (27, .pointer (some ⟨b2, 2, none⟩))]) (by kernel_rfl) ?_
          refine OpsT.cons (Does.yi (Yl.load (d := 28) (T := 9) (v := .string a0.Name) (by kernel_rfl) (ldB ty9 (l := c_ApiEvent a0) (o := 2) (v := .string a0.Name) (pick2 _ _ _) (by kernel_rfl))) hI ?_)
          obtain ⟨y20, hc19, h1⟩ := bindS h1
          try dsimp only at h1
          refine OpsT.cons (Does.call (d := some 29) (n := 100) (vs := [.string a0.Name]) (by kernel_rfl) en100 (c100 w0 w _ _ hI a0.Name _ hc19) ?_)
          rintro e w ⟨rfl, hI⟩
          refine ⟨_, rfl, ?_⟩
          obtain ⟨hg21, h1⟩ := guardS h1
          refine OpsT.cons (Does.yi (Yl.cat (d := 30) (T := 9) (x := x12) (y := y20) (by kernel_rfl) hg21) hI ?_)
          refine OpsT.pures (r := []) [5] [1, 5, 6] (S' := [(1, .pointer (some ⟨b2, 0, none⟩)), (5, .pointer (some ⟨b9, 0, none⟩)), (6, .string (x12 ++ y20))]) (by kernel_rfl) ?_
          refine OpsT.done ?_
          have e := someS h1
          subst e
          exact Qn.thenJ fun a ha => ⟨x12 ++ y20, rfl, ha.keep [1, 5, 6] (by kernel_rfl), hI⟩
        · rw [if_neg hb18] at h1
          refine CodT.no' (b := gt y7 1) (by kernel_rfl) (by simpa using hb18) ?_
          refine CodT.skip ?_
          have e := someS h1
          subst e
          exact Qn.thenJ fun a ha => ⟨x12, rfl, ha.keep [1, 5, 6] (by kernel_rfl), hI⟩
      ·
        rintro a w ⟨x17, rfl, ha, hI⟩
        try dsimp only at h0
        refine CodT.of ?_ ha
        obtain ⟨r1, h1, h0⟩ := bindS h0
        refine CodT.meet (fun a w => ∃ (x22 : ByteArray), x22 = r1 ∧ Fr 53 [(1, .pointer (some ⟨b2, 0, none⟩)), (5, .pointer (some ⟨b9, 0, none⟩)), (6, .string x22)] a ∧ Inv w0 Z w (star (pt b9 (.cells (cA Value.bool y7).toArray 144 (0, 0))) (star (pt b2 (.cells (c_ApiEvent a0).toArray 65 (0, 0))) A))) ?_ ?_
        ·
          refine CodT.seq ?_
          refine CodT.regionL [0, 1] (by kernel_rfl) ?_
          refine OpsT.pures (r := [1]) [0] [1, 5, 6, 31] (S' := [(1, .pointer (some ⟨b2, 0, none⟩)), (5, .pointer (some ⟨b9, 0, none⟩)), (6, .string x17), (31, .pointer (some ⟨b9, 2, none⟩))]) (by kernel_rfl) ?_
          refine OpsT.cons (Does.yi (Yl.load (d := 32) (T := 4) (v := .bool (gt y7 2)) (by kernel_rfl) (ldB ty4 (l := cA Value.bool y7) (o := 2) (v := .bool (gt y7 2)) (ent_refl _) (arr_getC _ _ 2 hl8 (by kernel_rfl)))) hI ?_)
          refine OpsT.done ?_
          refine Qn.then ?_
          by_cases hb23 : (gt y7 2) = true
          · rw [if_pos hb23] at h1
            refine CodT.yes' (b := gt y7 2) (by kernel_rfl) hb23 ?_
            refine CodT.regionL [0, 1, 2, 3, 4, 5] (by kernel_rfl) ?_
            refine OpsT.pures (r := [2, 3, 4, 5]) [0, 1] [1, 5, 33, 34] (S' := [(1, .pointer (some ⟨b2, 0, none⟩)), (5, .pointer (some ⟨b9, 0, none⟩)), (33, .string x17), (34, .pointer (some ⟨b2, 3, none⟩))]) (by kernel_rfl) ?_
            refine OpsT.cons (Does.yi (Yl.load (d := 35) (T := 3) (v := .int .i64 a0.Time) (by kernel_rfl) (ldB ty3 (l := c_ApiEvent a0) (o := 3) (v := .int .i64 a0.Time) (pick2 _ _ _) (by kernel_rfl))) hI ?_)
            obtain ⟨y25, hc24, h1⟩ := bindS h1
            try dsimp only at h1
            refine OpsT.cons (Does.call (d := some 36) (n := 51) (vs := [.int .i64 a0.Time]) (by kernel_rfl) en51 (c51 w0 w _ _ hI a0.Time _ hc24) ?_)
            rintro e w ⟨rfl, hI⟩
            refine ⟨_, rfl, ?_⟩
            obtain ⟨hg26, h1⟩ := guardS h1
            refine OpsT.cons (Does.yi (Yl.cat (d := 37) (T := 9) (x := x17) (y := y25) (by kernel_rfl) hg26) hI ?_)
            refine OpsT.pures (r := []) [5] [1, 5, 6] (S' := [(1, .pointer (some ⟨b2, 0, none⟩)), (5, .pointer (some ⟨b9, 0, none⟩)), (6, .string (x17 ++ y25))]) (by kernel_rfl) ?_
            refine OpsT.done ?_
            have e := someS h1
            subst e
            exact Qn.thenJ fun a ha => ⟨x17 ++ y25, rfl, ha.keep [1, 5, 6] (by kernel_rfl), hI⟩
          · rw [if_neg hb23] at h1
            refine CodT.no' (b := gt y7 2) (by kernel_rfl) (by simpa using hb23) ?_
            refine CodT.skip ?_
            have e := someS h1
            subst e
            exact Qn.thenJ fun a ha => ⟨x17, rfl, ha.keep [1, 5, 6] (by kernel_rfl), hI⟩
        ·
          rintro a w ⟨x22, rfl, ha, hI⟩
          try dsimp only at h0
          refine CodT.of ?_ ha
          obtain ⟨r1, h1, h0⟩ := bindS h0
          refine CodT.meet (fun a w => ∃ (x27 : ByteArray), x27 = r1 ∧ Fr 53 [(1, .pointer (some ⟨b2, 0, none⟩)), (5, .pointer (some ⟨b9, 0, none⟩)), (6, .string x27)] a ∧ Inv w0 Z w (star (pt b9 (.cells (cA Value.bool y7).toArray 144 (0, 0))) (star (pt b2 (.cells (c_ApiEvent a0).toArray 65 (0, 0))) A))) ?_ ?_
          ·
            refine CodT.seq ?_
            refine CodT.regionL [0, 1] (by kernel_rfl) ?_
            refine OpsT.pures (r := [1]) [0] [1, 5, 6, 38] (S' := [(1, .pointer (some ⟨b2, 0, none⟩)), (5, .pointer (some ⟨b9, 0, none⟩)), (6, .string x22), (38, .pointer (some ⟨b9, 3, none⟩))]) (by kernel_rfl) ?_
            refine OpsT.cons (Does.yi (Yl.load (d := 39) (T := 4) (v := .bool (gt y7 3)) (by kernel_rfl) (ldB ty4 (l := cA Value.bool y7) (o := 3) (v := .bool (gt y7 3)) (ent_refl _) (arr_getC _ _ 3 hl8 (by kernel_rfl)))) hI ?_)
            refine OpsT.done ?_
            refine Qn.then ?_
            by_cases hb28 : (gt y7 3) = true
            · rw [if_pos hb28] at h1
              refine CodT.yes' (b := gt y7 3) (by kernel_rfl) hb28 ?_
              refine CodT.regionL [0, 1, 2, 3, 4, 5] (by kernel_rfl) ?_
              refine OpsT.pures (r := [2, 3, 4, 5]) [0, 1] [1, 5, 40, 41] (S' := [(1, .pointer (some ⟨b2, 0, none⟩)), (5, .pointer (some ⟨b9, 0, none⟩)), (40, .string x22), (41, .pointer (some ⟨b2, 4, none⟩))]) (by kernel_rfl) ?_
              refine OpsT.cons (Does.yi (Yl.load (d := 42) (T := 3) (v := .int .i64 a0.Len) (by kernel_rfl) (ldB ty3 (l := c_ApiEvent a0) (o := 4) (v := .int .i64 a0.Len) (pick2 _ _ _) (by kernel_rfl))) hI ?_)
              obtain ⟨y30, hc29, h1⟩ := bindS h1
              try dsimp only at h1
              refine OpsT.cons (Does.call (d := some 43) (n := 51) (vs := [.int .i64 a0.Len]) (by kernel_rfl) en51 (c51 w0 w _ _ hI a0.Len _ hc29) ?_)
              rintro e w ⟨rfl, hI⟩
              refine ⟨_, rfl, ?_⟩
              obtain ⟨hg31, h1⟩ := guardS h1
              refine OpsT.cons (Does.yi (Yl.cat (d := 44) (T := 9) (x := x22) (y := y30) (by kernel_rfl) hg31) hI ?_)
              refine OpsT.pures (r := []) [5] [1, 5, 6] (S' := [(1, .pointer (some ⟨b2, 0, none⟩)), (5, .pointer (some ⟨b9, 0, none⟩)), (6, .string (x22 ++ y30))]) (by kernel_rfl) ?_
              refine OpsT.done ?_
              have e := someS h1
              subst e
              exact Qn.thenJ fun a ha => ⟨x22 ++ y30, rfl, ha.keep [1, 5, 6] (by kernel_rfl), hI⟩
            · rw [if_neg hb28] at h1
              refine CodT.no' (b := gt y7 3) (by kernel_rfl) (by simpa using hb28) ?_
              refine CodT.skip ?_
              have e := someS h1
              subst e
              exact Qn.thenJ fun a ha => ⟨x22, rfl, ha.keep [1, 5, 6] (by kernel_rfl), hI⟩
          ·
            rintro a w ⟨x27, rfl, ha, hI⟩
            try dsimp only at h0
            refine CodT.of ?_ ha
            obtain ⟨r1, h1, h0⟩ := bindS h0
            refine CodT.meet (fun a w => ∃ (x32 : ByteArray), x32 = r1 ∧ Fr 53 [(6, .string x32)] a ∧ Inv w0 Z w A) ?_ ?_
            ·
              refine CodT.seq ?_
              refine CodT.regionL [0, 1] (by kernel_rfl) ?_
              refine OpsT.pures (r := [1]) [0] [1, 6, 45] (S' := [(1, .pointer (some ⟨b2, 0, none⟩)), (6, .string x27), (45, .pointer (some ⟨b9, 4, none⟩))]) (by kernel_rfl) ?_
              refine OpsT.cons (Does.yi (Yl.load (d := 46) (T := 4) (v := .bool (gt y7 4)) (by kernel_rfl) (ldB ty4 (l := cA Value.bool y7) (o := 4) (v := .bool (gt y7 4)) (ent_refl _) (arr_getC _ _ 4 hl8 (by kernel_rfl)))) hI ?_)
              refine OpsT.done ?_
              refine Qn.then ?_
              by_cases hb33 : (gt y7 4) = true
              · rw [if_pos hb33] at h1
                refine CodT.yes' (b := gt y7 4) (by kernel_rfl) hb33 ?_
                refine CodT.regionL [0, 1, 2, 3, 4, 5] (by kernel_rfl) ?_
                refine OpsT.pures (r := [2, 3, 4, 5]) [0, 1] [47, 48] (S' := [(47, .string x27), (48, .pointer (some ⟨b2, 5, none⟩))]) (by kernel_rfl) ?_
                refine OpsT.cons (Does.yi (Yl.load (d := 49) (T := 55) (v := .agg (cA (Value.int .u8) a0.Sum).toArray) (by kernel_rfl) (ldBN ty55 (l := c_ApiEvent a0) (o := 5) (cs := cA (Value.int .u8) a0.Sum) (pick2 _ _ _) ((cA_length _ _).trans hl1) (tail_take _ _ _ _ _ (by kernel_rfl) hl1))) hI ?_)
                obtain ⟨y35, hc34, h1⟩ := bindS h1
                try dsimp only at h1
                refine OpsT.cons (Does.call (d := some 50) (n := 101) (vs := [.agg (cA (Value.int .u8) a0.Sum).toArray]) (by kernel_rfl) en101 (c101 w0 w _ _ hI a0.Sum hl1 _ hc34) ?_)
                rintro e w ⟨rfl, hI⟩
                refine ⟨_, rfl, ?_⟩
                obtain ⟨hg36, h1⟩ := guardS h1
                refine OpsT.cons (Does.yi (Yl.cat (d := 51) (T := 9) (x := x27) (y := y35) (by kernel_rfl) hg36) hI ?_)
                refine OpsT.pures (r := []) [5] [6] (S' := [(6, .string (x27 ++ y35))]) (by kernel_rfl) ?_
                refine OpsT.done ?_
                have hI := hI.drop
                have hI := hI.drop
                have e := someS h1
                subst e
                exact Qn.thenJ fun a ha => ⟨x27 ++ y35, rfl, ha.keep [6] (by kernel_rfl), hI⟩
              · rw [if_neg hb33] at h1
                refine CodT.no' (b := gt y7 4) (by kernel_rfl) (by simpa using hb33) ?_
                refine CodT.skip ?_
                have hI := hI.drop
                have hI := hI.drop
                have e := someS h1
                subst e
                exact Qn.thenJ fun a ha => ⟨x27, rfl, ha.keep [6] (by kernel_rfl), hI⟩
            ·
              rintro a w ⟨x32, rfl, ha, hI⟩
              try dsimp only at h0
              refine CodT.of ?_ ha
              refine CodT.seq ?_
              refine CodT.regionL [0, 1, 2] (by kernel_rfl) ?_
              refine OpsT.pures (r := []) [0, 1, 2] [2, 3] (S' := [(2, .string x32), (3, .bool true)]) (by kernel_rfl) ?_
              refine OpsT.done ?_
              refine Qn.then ?_
              refine CodT.ret ?_
              have e := someS h0
              subst e
              refine Qn.keep [2, 3] (S' := [(2, .string x32), (3, .bool true)]) (by kernel_rfl) ?_
              exact post_ret (v := .tuple #[.string x32, .bool true]) (fun a ha => RunRes.run (vs := [.string x32, .bool true]) (.tmp (t := 2) (by kernel_rfl) (.tmp (t := 3) (by kernel_rfl) .nil)) ha (by kernel_rfl)) ⟨rfl, hI⟩
set_option maxRecDepth 100000 in
set_option maxHeartbeats 4000000 in
/-- cenotaph/cenotaphref02.roots -/
theorem c112 (w0 w : World) (Z : Hp) (A : HP) (hI : Inv w0 Z w A)  (r : (List Int)) (h0 : ref02_roots = some r) :
    Calls prog 112 #[] w (fun e w' => e = .returned (.agg (cA (Value.int .u32) r).toArray) ∧ r.length = 8 ∧ Inv w0 Z w' A) := by
  have e4 := calls_intro (R := (fun e w' => e = .returned (.agg (cA (Value.int .u32) r).toArray) ∧ r.length = 8 ∧ Inv w0 Z w' A)) (w := w) (args := []) (fn := Go.Proofs.Try.f112) 2 Go.Proofs.Try.func112 (by rfl) Go.Proofs.Try.ntmps112 (by kernel_rfl)
  refine e4 ?_
  clear e4
  unfold ref02_roots at h0
  refine CodT.seq ?_
  refine CodT.regionL [0] (by kernel_rfl) ?_
  refine OpsT.cons (Does.allocL (d := 0) (T := 130) (cA (Value.int .u32) (List.replicate 8 (0 : Int))) (by kernel_rfl) ty130 hI (by kernel_rfl) ?_)
  intro b1 w hI
  refine OpsT.done ?_
  refine Qn.then ?_
  refine CodT.seq ?_
  refine CodT.regionL [0, 1] (by kernel_rfl) ?_
  refine OpsT.pures (r := [1]) [0] [0, 1] (S' := [(0, .pointer (some ⟨b1, 0, none⟩)), (1, .agg (cA (Value.int .u32) ([1779033703, 3144134277, 1013904242, 2773480762, 1359893119, 2600822924, 528734635, 1541459225] : List Int)).toArray)]) (by kernel_rfl) ?_
  refine OpsT.cons (Does.storeAll (T := 130) (b := b1) (n := 8) (xs := (List.replicate 8 (0 : Int))) (ys := ([1779033703, 3144134277, 1013904242, 2773480762, 1359893119, 2600822924, 528734635, 1541459225] : List Int)) (by kernel_rfl) ty130 hI (fun _ => rfl) (by kernel_rfl) (by kernel_rfl) ?_)
  intro w hI
  refine OpsT.done ?_
  refine Qn.then ?_
  refine CodT.ret ?_
  have hL2 := (ldBN ty130 (l := cA (Value.int .u32) ([1779033703, 3144134277, 1013904242, 2773480762, 1359893119, 2600822924, 528734635, 1541459225] : List Int)) (o := 0) (cs := cA (Value.int .u32) ([1779033703, 3144134277, 1013904242, 2773480762, 1359893119, 2600822924, 528734635, 1541459225] : List Int)) (ent_refl _) ((cA_length _ _).trans (by kernel_rfl)) (whole _ _ ((cA_length _ _).trans (by kernel_rfl)))) w hI
  have hI := hI.drop
  have e := someS h0
  subst e
  refine Qn.keep [0] (S' := [(0, .pointer (some ⟨b1, 0, none⟩))]) (by kernel_rfl) ?_
  exact post_ret (v := .agg (cA (Value.int .u32) ([1779033703, 3144134277, 1013904242, 2773480762, 1359893119, 2600822924, 528734635, 1541459225] : List Int)).toArray) (fun a ha => RunRes.run (vs := [.agg (cA (Value.int .u32) ([1779033703, 3144134277, 1013904242, 2773480762, 1359893119, 2600822924, 528734635, 1541459225] : List Int)).toArray]) (.cell (t := 0) (T := 130) (ad := ⟨b1, 0, none⟩) (by kernel_rfl) hL2 .nil) ha (by kernel_rfl)) ⟨rfl, (by kernel_rfl), hI⟩
set_option maxRecDepth 100000 in
set_option maxHeartbeats 4000000 in
/-- cenotaph/cenotaphref02.cubes -/
theorem c113 (w0 w : World) (Z : Hp) (A : HP) (hI : Inv w0 Z w A)  (r : (List Int)) (h0 : ref02_cubes = some r) :
    Calls prog 113 #[] w (fun e w' => e = .returned (.agg (cA (Value.int .u32) r).toArray) ∧ r.length = 64 ∧ Inv w0 Z w' A) := by
  have e4 := calls_intro (R := (fun e w' => e = .returned (.agg (cA (Value.int .u32) r).toArray) ∧ r.length = 64 ∧ Inv w0 Z w' A)) (w := w) (args := []) (fn := Go.Proofs.Try.f113) 2 Go.Proofs.Try.func113 (by rfl) Go.Proofs.Try.ntmps113 (by kernel_rfl)
  refine e4 ?_
  clear e4
  unfold ref02_cubes at h0
  refine CodT.seq ?_
  refine CodT.regionL [0] (by kernel_rfl) ?_
  refine OpsT.cons (Does.allocL (d := 0) (T := 131) (cA (Value.int .u32) (List.replicate 64 (0 : Int))) (by kernel_rfl) ty131 hI (by kernel_rfl) ?_)
  intro b1 w hI
  refine OpsT.done ?_
  refine Qn.then ?_
  refine CodT.seq ?_
  refine CodT.regionL [0, 1] (by kernel_rfl) ?_
  refine OpsT.pures (r := [1]) [0] [0, 1] (S' := [(0, .pointer (some ⟨b1, 0, none⟩)), (1, .agg (cA (Value.int .u32) ([1116352408, 1899447441, 3049323471, 3921009573, 961987163, 1508970993, 2453635748, 2870763221, 3624381080, 310598401, 607225278, 1426881987, 1925078388, 2162078206, 2614888103, 3248222580, 3835390401, 4022224774, 264347078, 604807628, 770255983, 1249150122, 1555081692, 1996064986, 2554220882, 2821834349, 2952996808, 3210313671, 3336571891, 3584528711, 113926993, 338241895, 666307205, 773529912, 1294757372, 1396182291, 1695183700, 1986661051, 2177026350, 2456956037, 2730485921, 2820302411, 3259730800, 3345764771, 3516065817, 3600352804, 4094571909, 275423344, 430227734, 506948616, 659060556, 883997877, 958139571, 1322822218, 1537002063, 1747873779, 1955562222, 2024104815, 2227730452, 2361852424, 2428436474, 2756734187, 3204031479, 3329325298] : List Int)).toArray)]) (by kernel_rfl) ?_
  refine OpsT.cons (Does.storeAll (T := 131) (b := b1) (n := 64) (xs := (List.replicate 64 (0 : Int))) (ys := ([1116352408, 1899447441, 3049323471, 3921009573, 961987163, 1508970993, 2453635748, 2870763221, 3624381080, 310598401, 607225278, 1426881987, 1925078388, 2162078206, 2614888103, 3248222580, 3835390401, 4022224774, 264347078, 604807628, 770255983, 1249150122, 1555081692, 1996064986, 2554220882, 2821834349, 2952996808, 3210313671, 3336571891, 3584528711, 113926993, 338241895, 666307205, 773529912, 1294757372, 1396182291, 1695183700, 1986661051, 2177026350, 2456956037, 2730485921, 2820302411, 3259730800, 3345764771, 3516065817, 3600352804, 4094571909, 275423344, 430227734, 506948616, 659060556, 883997877, 958139571, 1322822218, 1537002063, 1747873779, 1955562222, 2024104815, 2227730452, 2361852424, 2428436474, 2756734187, 3204031479, 3329325298] : List Int)) (by kernel_rfl) ty131 hI (fun _ => rfl) (by kernel_rfl) (by kernel_rfl) ?_)
  intro w hI
  refine OpsT.done ?_
  refine Qn.then ?_
  refine CodT.ret ?_
  have hL2 := (ldBN ty131 (l := cA (Value.int .u32) ([1116352408, 1899447441, 3049323471, 3921009573, 961987163, 1508970993, 2453635748, 2870763221, 3624381080, 310598401, 607225278, 1426881987, 1925078388, 2162078206, 2614888103, 3248222580, 3835390401, 4022224774, 264347078, 604807628, 770255983, 1249150122, 1555081692, 1996064986, 2554220882, 2821834349, 2952996808, 3210313671, 3336571891, 3584528711, 113926993, 338241895, 666307205, 773529912, 1294757372, 1396182291, 1695183700, 1986661051, 2177026350, 2456956037, 2730485921, 2820302411, 3259730800, 3345764771, 3516065817, 3600352804, 4094571909, 275423344, 430227734, 506948616, 659060556, 883997877, 958139571, 1322822218, 1537002063, 1747873779, 1955562222, 2024104815, 2227730452, 2361852424, 2428436474, 2756734187, 3204031479, 3329325298] : List Int)) (o := 0) (cs := cA (Value.int .u32) ([1116352408, 1899447441, 3049323471, 3921009573, 961987163, 1508970993, 2453635748, 2870763221, 3624381080, 310598401, 607225278, 1426881987, 1925078388, 2162078206, 2614888103, 3248222580, 3835390401, 4022224774, 264347078, 604807628, 770255983, 1249150122, 1555081692, 1996064986, 2554220882, 2821834349, 2952996808, 3210313671, 3336571891, 3584528711, 113926993, 338241895, 666307205, 773529912, 1294757372, 1396182291, 1695183700, 1986661051, 2177026350, 2456956037, 2730485921, 2820302411, 3259730800, 3345764771, 3516065817, 3600352804, 4094571909, 275423344, 430227734, 506948616, 659060556, 883997877, 958139571, 1322822218, 1537002063, 1747873779, 1955562222, 2024104815, 2227730452, 2361852424, 2428436474, 2756734187, 3204031479, 3329325298] : List Int)) (ent_refl _) ((cA_length _ _).trans (by kernel_rfl)) (whole _ _ ((cA_length _ _).trans (by kernel_rfl)))) w hI
  have hI := hI.drop
  have e := someS h0
  subst e
  refine Qn.keep [0] (S' := [(0, .pointer (some ⟨b1, 0, none⟩))]) (by kernel_rfl) ?_
  exact post_ret (v := .agg (cA (Value.int .u32) ([1116352408, 1899447441, 3049323471, 3921009573, 961987163, 1508970993, 2453635748, 2870763221, 3624381080, 310598401, 607225278, 1426881987, 1925078388, 2162078206, 2614888103, 3248222580, 3835390401, 4022224774, 264347078, 604807628, 770255983, 1249150122, 1555081692, 1996064986, 2554220882, 2821834349, 2952996808, 3210313671, 3336571891, 3584528711, 113926993, 338241895, 666307205, 773529912, 1294757372, 1396182291, 1695183700, 1986661051, 2177026350, 2456956037, 2730485921, 2820302411, 3259730800, 3345764771, 3516065817, 3600352804, 4094571909, 275423344, 430227734, 506948616, 659060556, 883997877, 958139571, 1322822218, 1537002063, 1747873779, 1955562222, 2024104815, 2227730452, 2361852424, 2428436474, 2756734187, 3204031479, 3329325298] : List Int)).toArray) (fun a ha => RunRes.run (vs := [.agg (cA (Value.int .u32) ([1116352408, 1899447441, 3049323471, 3921009573, 961987163, 1508970993, 2453635748, 2870763221, 3624381080, 310598401, 607225278, 1426881987, 1925078388, 2162078206, 2614888103, 3248222580, 3835390401, 4022224774, 264347078, 604807628, 770255983, 1249150122, 1555081692, 1996064986, 2554220882, 2821834349, 2952996808, 3210313671, 3336571891, 3584528711, 113926993, 338241895, 666307205, 773529912, 1294757372, 1396182291, 1695183700, 1986661051, 2177026350, 2456956037, 2730485921, 2820302411, 3259730800, 3345764771, 3516065817, 3600352804, 4094571909, 275423344, 430227734, 506948616, 659060556, 883997877, 958139571, 1322822218, 1537002063, 1747873779, 1955562222, 2024104815, 2227730452, 2361852424, 2428436474, 2756734187, 3204031479, 3329325298] : List Int)).toArray]) (.cell (t := 0) (T := 131) (ad := ⟨b1, 0, none⟩) (by kernel_rfl) hL2 .nil) ha (by kernel_rfl)) ⟨rfl, (by kernel_rfl), hI⟩
set_option maxRecDepth 100000 in
set_option maxHeartbeats 4000000 in
/-- cenotaph/cenotaphref02.Pad -/
theorem c114 (w0 w : World) (Z : Hp) (A : HP) (hI : Inv w0 Z w A) (a0 : ByteArray) (r : ByteArray) (h0 : ref02_Pad a0 = some r) :
    Calls prog 114 #[.string a0] w (fun e w' => e = .returned (.string r) ∧ Inv w0 Z w' A) := by
  have e4 := calls_intro (R := (fun e w' => e = .returned (.string r) ∧ Inv w0 Z w' A)) (w := w) (args := [.string a0]) (fn := Go.Proofs.Try.f114) 39 Go.Proofs.Try.func114 (by rfl) Go.Proofs.Try.ntmps114 (by kernel_rfl)
  refine e4 ?_
  clear e4
  unfold ref02_Pad at h0
  refine CodT.seq ?_
  refine CodT.regionL [0] (by kernel_rfl) ?_
  refine OpsT.pures (r := []) [0] [0] (S' := [(0, .string a0)]) (by kernel_rfl) ?_
  refine OpsT.done ?_
  refine Qn.then ?_
  refine CodT.seq ?_
  refine CodT.regionL [0, 1, 2] (by kernel_rfl) ?_
  refine OpsT.pures (r := [1, 2]) [0] [0, 7] (S' := [(0, .string a0), (7, .string a0)]) (by kernel_rfl) ?_
  obtain ⟨hg1, h0⟩ := guardS h0
  refine OpsT.cons (Does.s2b (d := 8) (src := 9) (dst := 68) (s := a0) (by kernel_rfl) Go.Proofs.Try.underlying9 Go.Proofs.Try.underlying68 Go.Proofs.Try.underlying5 (Nat.le_trans hg1 (by decide)) hI ?_)
  intro A2 cp3 w hI
  refine OpsT.pures (r := []) [2] [0, 3] (S' := [(0, .string a0), (3, .slice A2 ((byts a0).length) cp3)]) (by kernel_rfl) ?_
  refine OpsT.done ?_
  refine Qn.then ?_
  refine CodT.seq ?_
  refine CodT.regionL [0, 1, 2, 3] (by kernel_rfl) ?_
  refine OpsT.pures (r := [1, 2, 3]) [0] [0, 9] (S' := [(0, .string a0), (9, .slice A2 ((byts a0).length) cp3)]) (by kernel_rfl) ?_
  refine OpsT.cons (Does.buildSlice (en := (cI .u8)) (d := 10) (n := 1) (T := 68) (ps := [(0, .int .u8 128)]) ([128] : List Int) (by kernel_rfl) Go.Proofs.Try.underlying68 ty5 (by kernel_rfl) (by kernel_rfl) (by kernel_rfl) (by kernel_rfl) (len_all (fun _ => rfl)) hI ?_)
  intro b4 w hI
  obtain ⟨hg5, h0⟩ := guardS h0
  have hI := hI.mono (pick2 _ _ _)
  refine OpsT.cons (Does.append (d := 11) (t := 68) (tx := 68) (ty := 68) (ys := byts a0) (zs := ([128] : List Int)) (x := .slice (some ⟨b4, 0, none⟩) (([128] : List Int).length) 1) (by kernel_rfl) Go.Proofs.Try.underlying68 ty5 (by kernel_rfl) hI (src_own Go.Proofs.Try.underlying68 (hI.mono (pick2 _ _ _)) (one_flat _ (fun _ => rfl))) (ownS_facts (hI.mono (pick2 _ _ _))).2.2 (by unfold LIM at hg5; omega) hg5 ?_)
  intro A6 cp7 w hI
  refine OpsT.pures (r := []) [3] [0, 3] (S' := [(0, .string a0), (3, .slice A6 (((byts a0) ++ ([128] : List Int)).length) cp7)]) (by kernel_rfl) ?_
  refine OpsT.done ?_
  refine Qn.then ?_
  refine CodT.seq ?_
  obtain ⟨r1, h1, h0⟩ := bindS h0
  refine CodT.meet1 (fun a w => ∃ (x8 : (List Int)) (A9 : Option Addr) (cp10 : Nat), x8 = r1 ∧ Fr 39 [(0, .string a0), (3, .slice A9 x8.length cp10)] a ∧ Inv w0 Z w (star (ownS 5 (cI .u8) 1 A9 cp10 x8) A)) ?_ ?_
  ·
    refine CodT.block ?_
    have hI := hI.mono (pick2 _ _ _)
    have hI := hI.drop
    refine (fun a ha => wp_loopN (fun k a w => ∃ (x11 : (List Int)) (A12 : Option Addr) (cp13 : Nat), ref02_Pad.l0 k x11 = some r1 ∧ Fr 39 [(0, .string a0), (3, .slice A12 x11.length cp13)] a ∧ Inv w0 Z w (star (ownS 5 (cI .u8) 1 A12 cp13 x11) A)) ?_ FU a w ⟨(byts a0) ++ ([128] : List Int), A6, cp7, h1, ha.keep [0, 3] (by kernel_rfl), hI⟩)
    clear h1 hI
    rintro k a w ⟨x11, A12, cp13, h1, ha, hI⟩
    rcases k with _ | k
    · cases h1
    simp only [ref02_Pad.l0] at h1
    refine CodT.of ?_ ha
    refine CodT.seq ?_
    refine CodT.seq ?_
    refine CodT.regionL [0, 1, 2, 3] (by kernel_rfl) ?_
    refine OpsT.pures (r := []) [0, 1, 2, 3] [0, 3, 15] (S' := [(0, .string a0), (3, .slice A12 x11.length cp13), (15, .bool (((x11.length : Int).tmod 64) != 56))]) (by kernel_rfl) ?_
    refine OpsT.done ?_
    refine Qn.then ?_
    by_cases hb14 : (((x11.length : Int).tmod 64) != 56) = true
    · rw [if_pos hb14] at h1
      refine CodT.yes' (b := ((x11.length : Int).tmod 64) != 56) (by kernel_rfl) hb14 ?_
      refine CodT.skip ?_
      refine Qn.then ?_
      refine CodT.block ?_
      refine CodT.regionL [0, 1, 2, 3] (by kernel_rfl) ?_
      refine OpsT.pures (r := [1, 2, 3]) [0] [0, 16] (S' := [(0, .string a0), (16, .slice A12 x11.length cp13)]) (by kernel_rfl) ?_
      refine OpsT.cons (Does.buildSlice (en := (cI .u8)) (d := 17) (n := 1) (T := 68) (ps := [(0, .int .u8 0)]) ([0] : List Int) (by kernel_rfl) Go.Proofs.Try.underlying68 ty5 (by kernel_rfl) (by kernel_rfl) (by kernel_rfl) (by kernel_rfl) (len_all (fun _ => rfl)) hI ?_)
      intro b15 w hI
      obtain ⟨hg16, h1⟩ := guardS h1
      have hI := hI.mono (pick2 _ _ _)
      refine OpsT.cons (Does.append (d := 18) (t := 68) (tx := 68) (ty := 68) (ys := x11) (zs := ([0] : List Int)) (x := .slice (some ⟨b15, 0, none⟩) (([0] : List Int).length) 1) (by kernel_rfl) Go.Proofs.Try.underlying68 ty5 (by kernel_rfl) hI (src_own Go.Proofs.Try.underlying68 (hI.mono (pick2 _ _ _)) (one_flat _ (fun _ => rfl))) (ownS_facts (hI.mono (pick2 _ _ _))).2.2 (by unfold LIM at hg16; omega) hg16 ?_)
      intro A17 cp18 w hI
      refine OpsT.pures (r := []) [3] [0, 3] (S' := [(0, .string a0), (3, .slice A17 ((x11 ++ ([0] : List Int)).length) cp18)]) (by kernel_rfl) ?_
      refine OpsT.done ?_
      refine Qn.block_normal ?_
      have hI := hI.mono (pick2 _ _ _)
      have hI := hI.drop
      exact Qn.thenJ fun a ha => ⟨k, Nat.lt_succ_self k, x11 ++ ([0] : List Int), A17, cp18, h1, ha.keep [0, 3] (by kernel_rfl), hI⟩
    · rw [if_neg hb14] at h1
      refine CodT.no' (b := ((x11.length : Int).tmod 64) != 56) (by kernel_rfl) (by simpa using hb14) ?_
      refine CodT.exit ?_
      refine Qn.exit_then ?_
      refine Qn.exit_then ?_
      refine Qn.block ?_
      have e := someS h1
      subst e
      exact Qn.thenJ fun a ha => ⟨x11, A12, cp13, rfl, ha.keep [0, 3] (by kernel_rfl), hI⟩
  ·
    rintro a w ⟨x8, A9, cp10, rfl, ha, hI⟩
    try dsimp only at h0
    refine Qn.of ?_ ha
    refine Qn.then ?_
    refine CodT.seq ?_
    refine CodT.regionL [0, 1, 2, 3, 4] (by kernel_rfl) ?_
    refine OpsT.pures (r := []) [0, 1, 2, 3, 4] [3, 4] (S' := [(3, .slice A9 x8.length cp10), (4, .int .u64 (wu64 ((wu64 (a0.size : Int)) * 8)))]) (by kernel_rfl) ?_
    refine OpsT.done ?_
    refine Qn.then ?_
    refine CodT.seq ?_
    refine CodT.regionL [0] (by kernel_rfl) ?_
    refine OpsT.pures (r := []) [0] [3, 4, 5] (S' := [(3, .slice A9 x8.length cp10), (4, .int .u64 (wu64 ((wu64 (a0.size : Int)) * 8))), (5, .slice none 0 0)]) (by kernel_rfl) ?_
    refine OpsT.done ?_
    refine Qn.then ?_
    refine CodT.seq ?_
    refine CodT.seq ?_
    refine CodT.regionL [0] (by kernel_rfl) ?_
    refine OpsT.pures (r := []) [0] [3, 4, 5, 6] (S' := [(3, .slice A9 x8.length cp10), (4, .int .u64 (wu64 ((wu64 (a0.size : Int)) * 8))), (5, .slice none 0 0), (6, .int .i64 0)]) (by kernel_rfl) ?_
    refine OpsT.done ?_
    refine Qn.then ?_
    obtain ⟨r1, h1, h0⟩ := bindS h0
    refine CodT.meet1 (fun a w => ∃ (x19 : (List Int)) (A20 : Option Addr) (cp21 : Nat), x19 = r1 ∧ Fr 39 [(3, .slice A9 x8.length cp10), (5, .slice A20 x19.length cp21)] a ∧ Inv w0 Z w (star (ownS 5 (cI .u8) 1 A20 cp21 x19) (star (ownS 5 (cI .u8) 1 A9 cp10 x8) A))) ?_ ?_
    ·
      refine CodT.block ?_
      have hI := ownS_nil (α := Int) hI 5 (cI .u8) 1
      refine (fun a ha => wp_loopN (fun k a w => ∃ (x22 : Int) (x23 : (List Int)) (x26 : Int) (A24 : Option Addr) (cp25 : Nat), ref02_Pad.l1 k x22 x23 x26 = some r1 ∧ Fr 39 [(3, .slice A9 x8.length cp10), (4, .int .u64 x22), (5, .slice A24 x23.length cp25), (6, .int .i64 x26)] a ∧ Inv w0 Z w (star (ownS 5 (cI .u8) 1 A24 cp25 x23) (star (ownS 5 (cI .u8) 1 A9 cp10 x8) A))) ?_ FU a w ⟨wu64 ((wu64 (a0.size : Int)) * 8), ([] : List Int), 0, none, 0, h1, ha.keep [3, 4, 5, 6] (by kernel_rfl), hI⟩)
      clear h1 hI
      rintro k a w ⟨x22, x23, x26, A24, cp25, h1, ha, hI⟩
      rcases k with _ | k
      · cases h1
      simp only [ref02_Pad.l1] at h1
      refine CodT.of ?_ ha
      refine CodT.seq ?_
      refine CodT.seq ?_
      refine CodT.regionL [0, 1] (by kernel_rfl) ?_
      refine OpsT.pures (r := []) [0, 1] [3, 4, 5, 6, 24] (S' := [(3, .slice A9 x8.length cp10), (4, .int .u64 x22), (5, .slice A24 x23.length cp25), (6, .int .i64 x26), (24, .bool (decide (x26 < 8)))]) (by kernel_rfl) ?_
      refine OpsT.done ?_
      refine Qn.then ?_
      by_cases hb27 : (decide (x26 < 8)) = true
      · rw [if_pos hb27] at h1
        refine CodT.yes' (b := decide (x26 < 8)) (by kernel_rfl) hb27 ?_
        refine CodT.skip ?_
        refine Qn.then ?_
        refine CodT.seq ?_
        refine CodT.block ?_
        refine CodT.seq ?_
        refine CodT.regionL [0, 1, 2, 3, 4, 5, 6] (by kernel_rfl) ?_
        refine OpsT.pures (r := [3, 4, 5, 6]) [0, 1, 2] [3, 4, 5, 6, 29] (S' := [(3, .slice A9 x8.length cp10), (4, .int .u64 x22), (5, .slice A24 x23.length cp25), (6, .int .i64 x26), (29, .int .u8 (wu8 (x22.tmod 256)))]) (by kernel_rfl) ?_
        refine OpsT.cons (Does.buildSlice (en := (cI .u8)) (d := 30) (n := 1) (T := 68) (ps := [(0, .int .u8 (wu8 (x22.tmod 256)))]) ([wu8 (x22.tmod 256)] : List Int) (by kernel_rfl) Go.Proofs.Try.underlying68 ty5 (by kernel_rfl) (by kernel_rfl) (by kernel_rfl) (by kernel_rfl) (len_all (fun _ => rfl)) hI ?_)
        intro b28 w hI
        refine OpsT.pures (r := [5, 6]) [4] [3, 4, 6, 30, 31] (S' := [(3, .slice A9 x8.length cp10), (4, .int .u64 x22), (6, .int .i64 x26), (30, .slice (some ⟨b28, 0, none⟩) (([wu8 (x22.tmod 256)] : List Int).length) 1), (31, .slice A24 x23.length cp25)]) (by kernel_rfl) ?_
        obtain ⟨hg29, h1⟩ := guardS h1
        refine OpsT.cons (Does.append (d := 32) (t := 68) (tx := 68) (ty := 68) (ys := ([wu8 (x22.tmod 256)] : List Int)) (zs := x23) (x := .slice A24 x23.length cp25) (by kernel_rfl) Go.Proofs.Try.underlying68 ty5 (by kernel_rfl) hI (src_own Go.Proofs.Try.underlying68 (hI.mono (pick2 _ _ _)) (one_flat _ (fun _ => rfl))) (ownS_facts (hI.mono (pick2 _ _ _))).2.2 (by unfold LIM at hg29; omega) hg29 ?_)
        intro A30 cp31 w hI
        refine OpsT.pures (r := []) [6] [3, 4, 5, 6] (S' := [(3, .slice A9 x8.length cp10), (4, .int .u64 x22), (5, .slice A30 ((([wu8 (x22.tmod 256)] : List Int) ++ x23).length) cp31), (6, .int .i64 x26)]) (by kernel_rfl) ?_
        refine OpsT.done ?_
        refine Qn.then ?_
        refine CodT.regionL [0, 1, 2] (by kernel_rfl) ?_
        refine OpsT.pures (r := []) [0, 1, 2] [3, 4, 5, 6] (S' := [(3, .slice A9 x8.length cp10), (4, .int .u64 (wu64 (x22.tdiv 256))), (5, .slice A30 ((([wu8 (x22.tmod 256)] : List Int) ++ x23).length) cp31), (6, .int .i64 x26)]) (by kernel_rfl) ?_
        refine OpsT.done ?_
        refine Qn.block_normal ?_
        refine Qn.then ?_
        refine CodT.regionL [0, 1, 2] (by kernel_rfl) ?_
        refine OpsT.pures (r := []) [0, 1, 2] [3, 4, 5, 6] (S' := [(3, .slice A9 x8.length cp10), (4, .int .u64 (wu64 (x22.tdiv 256))), (5, .slice A30 ((([wu8 (x22.tmod 256)] : List Int) ++ x23).length) cp31), (6, .int .i64 (wi64 (x26 + 1)))]) (by kernel_rfl) ?_
        refine OpsT.done ?_
        have hI := hI.mono (pick2 _ _ _)
        have hI := hI.drop
        exact Qn.thenJ fun a ha => ⟨k, Nat.lt_succ_self k, wu64 (x22.tdiv 256), ([wu8 (x22.tmod 256)] : List Int) ++ x23, wi64 (x26 + 1), A30, cp31, h1, ha.keep [3, 4, 5, 6] (by kernel_rfl), hI⟩
      · rw [if_neg hb27] at h1
        refine CodT.no' (b := decide (x26 < 8)) (by kernel_rfl) (by simpa using hb27) ?_
        refine CodT.exit ?_
        refine Qn.exit_then ?_
        refine Qn.exit_then ?_
        refine Qn.block ?_
        have e := someS h1
        subst e
        exact Qn.thenJ fun a ha => ⟨x23, A24, cp25, rfl, ha.keep [3, 5] (by kernel_rfl), hI⟩
    ·
      rintro a w ⟨x19, A20, cp21, rfl, ha, hI⟩
      try dsimp only at h0
      refine Qn.of ?_ ha
      refine Qn.then ?_
      refine CodT.seq ?_
      refine CodT.regionL [0, 1, 2, 3, 4] (by kernel_rfl) ?_
      refine OpsT.pures (r := [2, 3, 4]) [0, 1] [35, 36] (S' := [(35, .slice A9 x8.length cp10), (36, .slice A20 x19.length cp21)]) (by kernel_rfl) ?_
      obtain ⟨hg32, h0⟩ := guardS h0
      have hI := hI.mono (pick2 _ _ _)
      refine OpsT.cons (Does.append (d := 37) (t := 68) (tx := 68) (ty := 68) (ys := x8) (zs := x19) (x := .slice A20 x19.length cp21) (by kernel_rfl) Go.Proofs.Try.underlying68 ty5 (by kernel_rfl) hI (src_own Go.Proofs.Try.underlying68 (hI.mono (pick2 _ _ _)) (one_flat _ (fun _ => rfl))) (ownS_facts (hI.mono (pick2 _ _ _))).2.2 (by unfold LIM at hg32; omega) hg32 ?_)
      intro A33 cp34 w hI
      refine OpsT.cons (Does.b2sOwn (d := 38) (src := 68) (dst := 9) (xs := x8 ++ x19) (by kernel_rfl) Go.Proofs.Try.underlying68 Go.Proofs.Try.underlying5 Go.Proofs.Try.underlying9 hI ?_)
      refine OpsT.pures (r := []) [4] [2] (S' := [(2, .string (strOfNums (x8 ++ x19)))]) (by kernel_rfl) ?_
      refine OpsT.done ?_
      refine Qn.then ?_
      refine CodT.ret ?_
      have hI := hI.drop
      have hI := hI.drop
      have e := someS h0
      subst e
      refine Qn.keep [2] (S' := [(2, .string (strOfNums (x8 ++ x19)))]) (by kernel_rfl) ?_
      exact post_ret (v := .string (strOfNums (x8 ++ x19))) (fun a ha => RunRes.run (vs := [.string (strOfNums (x8 ++ x19))]) (.tmp (t := 2) (by kernel_rfl) .nil) ha (by kernel_rfl)) ⟨rfl, hI⟩
set_option maxRecDepth 100000 in
set_option maxHeartbeats 4000000 in
/-- cenotaph/cenotaphref02.right -/
theorem c115 (w0 w : World) (Z : Hp) (A : HP) (hI : Inv w0 Z w A) (a0 : Int) (a1 : Int) (r : Int) (h0 : ref02_right a0 a1 = some r) :
    Calls prog 115 #[.int .u32 a0, .int .i64 a1] w (fun e w' => e = .returned (.int .u32 r) ∧ Inv w0 Z w' A) := by
  have e4 := calls_intro (R := (fun e w' => e = .returned (.int .u32 r) ∧ Inv w0 Z w' A)) (w := w) (args := [.int .u32 a0, .int .i64 a1]) (fn := Go.Proofs.Try.f115) 21 Go.Proofs.Try.func115 (by rfl) Go.Proofs.Try.ntmps115 (by kernel_rfl)
  refine e4 ?_
  clear e4
  unfold ref02_right at h0
  refine CodT.seq ?_
  refine CodT.regionL [0] (by kernel_rfl) ?_
  refine OpsT.pures (r := []) [0] [0, 1] (S' := [(0, .int .u32 a0), (1, .int .i64 a1)]) (by kernel_rfl) ?_
  refine OpsT.done ?_
  refine Qn.then ?_
  refine CodT.seq ?_
  refine CodT.seq ?_
  refine CodT.regionL [0] (by kernel_rfl) ?_
  refine OpsT.pures (r := []) [0] [0, 1, 5] (S' := [(0, .int .u32 a0), (1, .int .i64 a1), (5, .int .i64 0)]) (by kernel_rfl) ?_
  refine OpsT.done ?_
  refine Qn.then ?_
  obtain ⟨r1, h1, h0⟩ := bindS h0
  refine CodT.meet1 (fun a w => ∃ (x1 : Int), x1 = r1 ∧ Fr 21 [(0, .int .u32 x1)] a ∧ Inv w0 Z w A) ?_ ?_
  ·
    refine CodT.block ?_
    refine (fun a ha => wp_loopN (fun k a w => ∃ (x2 : Int) (x3 : Int), ref02_right.l0 a1 k x2 x3 = some r1 ∧ Fr 21 [(0, .int .u32 x2), (1, .int .i64 a1), (5, .int .i64 x3)] a ∧ Inv w0 Z w A) ?_ FU a w ⟨a0, 0, h1, ha.keep [0, 1, 5] (by kernel_rfl), hI⟩)
    clear h1 hI
    rintro k a w ⟨x2, x3, h1, ha, hI⟩
    rcases k with _ | k
    · cases h1
    simp only [ref02_right.l0] at h1
    refine CodT.of ?_ ha
    refine CodT.seq ?_
    refine CodT.seq ?_
    refine CodT.regionL [0, 1, 2] (by kernel_rfl) ?_
    refine OpsT.pures (r := []) [0, 1, 2] [0, 1, 5, 9] (S' := [(0, .int .u32 x2), (1, .int .i64 a1), (5, .int .i64 x3), (9, .bool (decide (x3 < a1)))]) (by kernel_rfl) ?_
    refine OpsT.done ?_
    refine Qn.then ?_
    by_cases hb4 : (decide (x3 < a1)) = true
    · rw [if_pos hb4] at h1
      refine CodT.yes' (b := decide (x3 < a1)) (by kernel_rfl) hb4 ?_
      refine CodT.skip ?_
      refine Qn.then ?_
      obtain ⟨r2, h2, h1⟩ := bindS h1
      refine CodT.meet (fun a w => ∃ (x5 : Int), x5 = r2 ∧ Fr 21 [(0, .int .u32 x5), (1, .int .i64 a1), (5, .int .i64 x3)] a ∧ Inv w0 Z w A) ?_ ?_
      ·
        refine CodT.block ?_
        refine CodT.seq ?_
        refine CodT.regionL [0, 1, 2] (by kernel_rfl) ?_
        refine OpsT.pures (r := []) [0, 1, 2] [0, 1, 5, 6] (S' := [(0, .int .u32 x2), (1, .int .i64 a1), (5, .int .i64 x3), (6, .int .u32 (x2.tmod 2))]) (by kernel_rfl) ?_
        refine OpsT.done ?_
        refine Qn.then ?_
        refine CodT.seq ?_
        refine CodT.regionL [0, 1, 2] (by kernel_rfl) ?_
        refine OpsT.pures (r := []) [0, 1, 2] [0, 1, 5, 6] (S' := [(0, .int .u32 (wu32 (x2.tdiv 2))), (1, .int .i64 a1), (5, .int .i64 x3), (6, .int .u32 (x2.tmod 2))]) (by kernel_rfl) ?_
        refine OpsT.done ?_
        refine Qn.then ?_
        refine CodT.seq ?_
        refine CodT.regionL [0, 1] (by kernel_rfl) ?_
        refine OpsT.pures (r := []) [0, 1] [0, 1, 5, 17] (S' := [(0, .int .u32 (wu32 (x2.tdiv 2))), (1, .int .i64 a1), (5, .int .i64 x3), (17, .bool ((x2.tmod 2) == 1))]) (by kernel_rfl) ?_
        refine OpsT.done ?_
        refine Qn.then ?_
        by_cases hb6 : ((x2.tmod 2) == 1) = true
        · rw [if_pos hb6] at h2
          refine CodT.yes' (b := (x2.tmod 2) == 1) (by kernel_rfl) hb6 ?_
          refine CodT.regionL [0, 1, 2] (by kernel_rfl) ?_
          refine OpsT.pures (r := []) [0, 1, 2] [0, 1, 5] (S' := [(0, .int .u32 (wu32 ((wu32 (x2.tdiv 2)) + 2147483648))), (1, .int .i64 a1), (5, .int .i64 x3)]) (by kernel_rfl) ?_
          refine OpsT.done ?_
          refine Qn.block_normal ?_
          have e := someS h2
          subst e
          exact Qn.thenJ fun a ha => ⟨wu32 ((wu32 (x2.tdiv 2)) + 2147483648), rfl, ha.keep [0, 1, 5] (by kernel_rfl), hI⟩
        · rw [if_neg hb6] at h2
          refine CodT.no' (b := (x2.tmod 2) == 1) (by kernel_rfl) (by simpa using hb6) ?_
          refine CodT.skip ?_
          refine Qn.block_normal ?_
          have e := someS h2
          subst e
          exact Qn.thenJ fun a ha => ⟨wu32 (x2.tdiv 2), rfl, ha.keep [0, 1, 5] (by kernel_rfl), hI⟩
      ·
        rintro a w ⟨x5, rfl, ha, hI⟩
        try dsimp only at h1
        refine CodT.of ?_ ha
        refine CodT.regionL [0, 1, 2] (by kernel_rfl) ?_
        refine OpsT.pures (r := []) [0, 1, 2] [0, 1, 5] (S' := [(0, .int .u32 x5), (1, .int .i64 a1), (5, .int .i64 (wi64 (x3 + 1)))]) (by kernel_rfl) ?_
        refine OpsT.done ?_
        exact Qn.thenJ fun a ha => ⟨k, Nat.lt_succ_self k, x5, wi64 (x3 + 1), h1, ha.keep [0, 1, 5] (by kernel_rfl), hI⟩
    · rw [if_neg hb4] at h1
      refine CodT.no' (b := decide (x3 < a1)) (by kernel_rfl) (by simpa using hb4) ?_
      refine CodT.exit ?_
      refine Qn.exit_then ?_
      refine Qn.exit_then ?_
      refine Qn.block ?_
      have e := someS h1
      subst e
      exact Qn.thenJ fun a ha => ⟨x2, rfl, ha.keep [0] (by kernel_rfl), hI⟩
  ·
    rintro a w ⟨x1, rfl, ha, hI⟩
    try dsimp only at h0
    refine Qn.of ?_ ha
    refine Qn.then ?_
    refine CodT.seq ?_
    refine CodT.regionL [0, 1] (by kernel_rfl) ?_
    refine OpsT.pures (r := []) [0, 1] [4] (S' := [(4, .int .u32 x1)]) (by kernel_rfl) ?_
    refine OpsT.done ?_
    refine Qn.then ?_
    refine CodT.ret ?_
    have e := someS h0
    subst e
    refine Qn.keep [4] (S' := [(4, .int .u32 x1)]) (by kernel_rfl) ?_
    exact post_ret (v := .int .u32 x1) (fun a ha => RunRes.run (vs := [.int .u32 x1]) (.tmp (t := 4) (by kernel_rfl) .nil) ha (by kernel_rfl)) ⟨rfl, hI⟩
set_option maxRecDepth 100000 in
set_option maxHeartbeats 4000000 in
/-- cenotaph/cenotaphref02.shift -/
theorem c116 (w0 w : World) (Z : Hp) (A : HP) (hI : Inv w0 Z w A) (a0 : Int) (a1 : Int) (r : Int) (h0 : ref02_shift a0 a1 = some r) :
    Calls prog 116 #[.int .u32 a0, .int .i64 a1] w (fun e w' => e = .returned (.int .u32 r) ∧ Inv w0 Z w' A) := by
  have e4 := calls_intro (R := (fun e w' => e = .returned (.int .u32 r) ∧ Inv w0 Z w' A)) (w := w) (args := [.int .u32 a0, .int .i64 a1]) (fn := Go.Proofs.Try.f116) 14 Go.Proofs.Try.func116 (by rfl) Go.Proofs.Try.ntmps116 (by kernel_rfl)
  refine e4 ?_
  clear e4
  unfold ref02_shift at h0
  refine CodT.seq ?_
  refine CodT.regionL [0] (by kernel_rfl) ?_
  refine OpsT.pures (r := []) [0] [0, 1] (S' := [(0, .int .u32 a0), (1, .int .i64 a1)]) (by kernel_rfl) ?_
  refine OpsT.done ?_
  refine Qn.then ?_
  refine CodT.seq ?_
  refine CodT.seq ?_
  refine CodT.regionL [0] (by kernel_rfl) ?_
  refine OpsT.pures (r := []) [0] [0, 1, 5] (S' := [(0, .int .u32 a0), (1, .int .i64 a1), (5, .int .i64 0)]) (by kernel_rfl) ?_
  refine OpsT.done ?_
  refine Qn.then ?_
  obtain ⟨r1, h1, h0⟩ := bindS h0
  refine CodT.meet1 (fun a w => ∃ (x1 : Int), x1 = r1 ∧ Fr 14 [(0, .int .u32 x1)] a ∧ Inv w0 Z w A) ?_ ?_
  ·
    refine CodT.block ?_
    refine (fun a ha => wp_loopN (fun k a w => ∃ (x2 : Int) (x3 : Int), ref02_shift.l0 a1 k x2 x3 = some r1 ∧ Fr 14 [(0, .int .u32 x2), (1, .int .i64 a1), (5, .int .i64 x3)] a ∧ Inv w0 Z w A) ?_ FU a w ⟨a0, 0, h1, ha.keep [0, 1, 5] (by kernel_rfl), hI⟩)
    clear h1 hI
    rintro k a w ⟨x2, x3, h1, ha, hI⟩
    rcases k with _ | k
    · cases h1
    simp only [ref02_shift.l0] at h1
    refine CodT.of ?_ ha
    refine CodT.seq ?_
    refine CodT.seq ?_
    refine CodT.regionL [0, 1, 2] (by kernel_rfl) ?_
    refine OpsT.pures (r := []) [0, 1, 2] [0, 1, 5, 8] (S' := [(0, .int .u32 x2), (1, .int .i64 a1), (5, .int .i64 x3), (8, .bool (decide (x3 < a1)))]) (by kernel_rfl) ?_
    refine OpsT.done ?_
    refine Qn.then ?_
    by_cases hb4 : (decide (x3 < a1)) = true
    · rw [if_pos hb4] at h1
      refine CodT.yes' (b := decide (x3 < a1)) (by kernel_rfl) hb4 ?_
      refine CodT.skip ?_
      refine Qn.then ?_
      refine CodT.seq ?_
      refine CodT.block ?_
      refine CodT.regionL [0, 1, 2] (by kernel_rfl) ?_
      refine OpsT.pures (r := []) [0, 1, 2] [0, 1, 5] (S' := [(0, .int .u32 (wu32 (x2.tdiv 2))), (1, .int .i64 a1), (5, .int .i64 x3)]) (by kernel_rfl) ?_
      refine OpsT.done ?_
      refine Qn.block_normal ?_
      refine Qn.then ?_
      refine CodT.regionL [0, 1, 2] (by kernel_rfl) ?_
      refine OpsT.pures (r := []) [0, 1, 2] [0, 1, 5] (S' := [(0, .int .u32 (wu32 (x2.tdiv 2))), (1, .int .i64 a1), (5, .int .i64 (wi64 (x3 + 1)))]) (by kernel_rfl) ?_
      refine OpsT.done ?_
      exact Qn.thenJ fun a ha => ⟨k, Nat.lt_succ_self k, wu32 (x2.tdiv 2), wi64 (x3 + 1), h1, ha.keep [0, 1, 5] (by kernel_rfl), hI⟩
    · rw [if_neg hb4] at h1
      refine CodT.no' (b := decide (x3 < a1)) (by kernel_rfl) (by simpa using hb4) ?_
      refine CodT.exit ?_
      refine Qn.exit_then ?_
      refine Qn.exit_then ?_
      refine Qn.block ?_
      have e := someS h1
      subst e
      exact Qn.thenJ fun a ha => ⟨x2, rfl, ha.keep [0] (by kernel_rfl), hI⟩
  ·
    rintro a w ⟨x1, rfl, ha, hI⟩
    try dsimp only at h0
    refine Qn.of ?_ ha
    refine Qn.then ?_
    refine CodT.seq ?_
    refine CodT.regionL [0, 1] (by kernel_rfl) ?_
    refine OpsT.pures (r := []) [0, 1] [4] (S' := [(4, .int .u32 x1)]) (by kernel_rfl) ?_
    refine OpsT.done ?_
    refine Qn.then ?_
    refine CodT.ret ?_
    have e := someS h0
    subst e
    refine Qn.keep [4] (S' := [(4, .int .u32 x1)]) (by kernel_rfl) ?_
    exact post_ret (v := .int .u32 x1) (fun a ha => RunRes.run (vs := [.int .u32 x1]) (.tmp (t := 4) (by kernel_rfl) .nil) ha (by kernel_rfl)) ⟨rfl, hI⟩
set_option maxRecDepth 100000 in
set_option maxHeartbeats 4000000 in
/-- cenotaph/cenotaphref02.Of -/
theorem c95 (w0 w : World) (Z : Hp) (A : HP) (hI : Inv w0 Z w A) (a0 : ByteArray) (r : (List Int)) (h0 : ref02_Of a0 = some r) :
    Calls prog 95 #[.string a0] w (fun e w' => e = .returned (.agg (cA (Value.int .u8) r).toArray) ∧ r.length = 32 ∧ Inv w0 Z w' A) := by
  have e4 := calls_intro (R := (fun e w' => e = .returned (.agg (cA (Value.int .u8) r).toArray) ∧ r.length = 32 ∧ Inv w0 Z w' A)) (w := w) (args := [.string a0]) (fn := Go.Proofs.Try.f95) 216 Go.Proofs.Try.func95 (by rfl) Go.Proofs.Try.ntmps95 (by kernel_rfl)
  refine e4 ?_
  clear e4
  unfold ref02_Of at h0
  refine CodT.seq ?_
  refine CodT.regionL [0] (by kernel_rfl) ?_
  refine OpsT.cons (Does.allocL (d := 2) (T := 55) (cA (Value.int .u8) (List.replicate 32 (0 : Int))) (by kernel_rfl) ty55 hI (by kernel_rfl) ?_)
  intro b1 w hI
  refine OpsT.done ?_
  refine Qn.then ?_
  refine CodT.seq ?_
  refine CodT.regionL [0, 1, 2] (by kernel_rfl) ?_
  obtain ⟨y3, hc2, h0⟩ := bindS h0
  try dsimp only at h0
  refine OpsT.cons (Does.call (d := some 24) (n := 112) (vs := []) (by kernel_rfl) en112 (c112 w0 w _ _ hI _ hc2) ?_)
  rintro e w ⟨rfl, hl4, hI⟩
  refine ⟨_, rfl, ?_⟩
  refine OpsT.cons (Does.allocL (d := 3) (T := 130) (cA (Value.int .u32) (List.replicate 8 (0 : Int))) (by kernel_rfl) ty130 hI (by kernel_rfl) ?_)
  intro b5 w hI
  refine OpsT.cons (Does.storeAll (T := 130) (b := b5) (n := 8) (xs := (List.replicate 8 (0 : Int))) (ys := y3) (by kernel_rfl) ty130 hI (fun _ => rfl) (by kernel_rfl) hl4 ?_)
  intro w hI
  refine OpsT.done ?_
  refine Qn.then ?_
  refine CodT.seq ?_
  refine CodT.regionL [0, 1, 2] (by kernel_rfl) ?_
  obtain ⟨y7, hc6, h0⟩ := bindS h0
  try dsimp only at h0
  refine OpsT.cons (Does.call (d := some 25) (n := 113) (vs := []) (by kernel_rfl) en113 (c113 w0 w _ _ hI _ hc6) ?_)
  rintro e w ⟨rfl, hl8, hI⟩
  refine ⟨_, rfl, ?_⟩
  refine OpsT.cons (Does.allocL (d := 4) (T := 131) (cA (Value.int .u32) (List.replicate 64 (0 : Int))) (by kernel_rfl) ty131 hI (by kernel_rfl) ?_)
  intro b9 w hI
  refine OpsT.cons (Does.storeAll (T := 131) (b := b9) (n := 64) (xs := (List.replicate 64 (0 : Int))) (ys := y7) (by kernel_rfl) ty131 hI (fun _ => rfl) (by kernel_rfl) hl8 ?_)
  intro w hI
  refine OpsT.done ?_
  refine Qn.then ?_
  refine CodT.seq ?_
  refine CodT.regionL [0, 1, 2] (by kernel_rfl) ?_
  refine OpsT.pures (r := [1, 2]) [0] [2, 3, 4, 26] (S' := [(2, .pointer (some ⟨b1, 0, none⟩)), (3, .pointer (some ⟨b5, 0, none⟩)), (4, .pointer (some ⟨b9, 0, none⟩)), (26, .string a0)]) (by kernel_rfl) ?_
  obtain ⟨y11, hc10, h0⟩ := bindS h0
  try dsimp only at h0
  refine OpsT.cons (Does.call (d := some 27) (n := 114) (vs := [.string a0]) (by kernel_rfl) en114 (c114 w0 w _ _ hI a0 _ hc10) ?_)
  rintro e w ⟨rfl, hI⟩
  refine ⟨_, rfl, ?_⟩
  refine OpsT.pures (r := []) [2] [2, 3, 4, 5] (S' := [(2, .pointer (some ⟨b1, 0, none⟩)), (3, .pointer (some ⟨b5, 0, none⟩)), (4, .pointer (some ⟨b9, 0, none⟩)), (5, .string y11)]) (by kernel_rfl) ?_
  refine OpsT.done ?_
  refine Qn.then ?_
  refine CodT.seq ?_
  refine CodT.seq ?_
  refine CodT.regionL [0] (by kernel_rfl) ?_
  refine OpsT.pures (r := []) [0] [2, 3, 4, 5, 6] (S' := [(2, .pointer (some ⟨b1, 0, none⟩)), (3, .pointer (some ⟨b5, 0, none⟩)), (4, .pointer (some ⟨b9, 0, none⟩)), (5, .string y11), (6, .int .i64 0)]) (by kernel_rfl) ?_
  refine OpsT.done ?_
  refine Qn.then ?_
  obtain ⟨r1, h1, h0⟩ := bindS h0
  refine CodT.meet1 (fun a w => ∃ (x12 : (List Int)), x12 = r1 ∧ Fr 216 [(2, .pointer (some ⟨b1, 0, none⟩)), (3, .pointer (some ⟨b5, 0, none⟩))] a ∧ Inv w0 Z w (star (pt b5 (.cells (cA (Value.int .u32) x12).toArray 130 (0, 0))) (star (pt b1 (.cells (cA (Value.int .u8) (List.replicate 32 (0 : Int))).toArray 55 (0, 0))) A)) ∧ x12.length = 8) ?_ ?_
  ·
    refine CodT.block ?_
    refine (fun a ha => wp_loopN (fun k a w => ∃ (x14 : Int) (x15 : (List Int)), ref02_Of.l0 y11 y7 k x14 x15 = some r1 ∧ Fr 216 [(2, .pointer (some ⟨b1, 0, none⟩)), (3, .pointer (some ⟨b5, 0, none⟩)), (4, .pointer (some ⟨b9, 0, none⟩)), (5, .string y11), (6, .int .i64 x14)] a ∧ Inv w0 Z w (star (pt b9 (.cells (cA (Value.int .u32) y7).toArray 131 (0, 0))) (star (pt b5 (.cells (cA (Value.int .u32) x15).toArray 130 (0, 0))) (star (pt b1 (.cells (cA (Value.int .u8) (List.replicate 32 (0 : Int))).toArray 55 (0, 0))) A))) ∧ x15.length = 8) ?_ FU a w ⟨0, y3, h1, ha.keep [2, 3, 4, 5, 6] (by kernel_rfl), hI, hl4⟩)
    clear h1 hI
    rintro k a w ⟨x14, x15, h1, ha, hI, hl16⟩
    rcases k with _ | k
    · cases h1
    simp only [ref02_Of.l0] at h1
    refine CodT.of ?_ ha
    refine CodT.seq ?_
    refine CodT.seq ?_
    refine CodT.regionL [0, 1, 2, 3] (by kernel_rfl) ?_
    refine OpsT.pures (r := []) [0, 1, 2, 3] [2, 3, 4, 5, 6, 31] (S' := [(2, .pointer (some ⟨b1, 0, none⟩)), (3, .pointer (some ⟨b5, 0, none⟩)), (4, .pointer (some ⟨b9, 0, none⟩)), (5, .string y11), (6, .int .i64 x14), (31, .bool (decide (x14 < (y11.size : Int))))]) (by kernel_rfl) ?_
    refine OpsT.done ?_
    refine Qn.then ?_
    by_cases hb17 : (decide (x14 < (y11.size : Int))) = true
    · rw [if_pos hb17] at h1
      refine CodT.yes' (b := decide (x14 < (y11.size : Int))) (by kernel_rfl) hb17 ?_
      refine CodT.skip ?_
      refine Qn.then ?_
      refine CodT.seq ?_
      refine CodT.block ?_
      refine CodT.seq ?_
      refine CodT.regionL [0] (by kernel_rfl) ?_
      refine OpsT.cons (Does.allocL (d := 7) (T := 131) (cA (Value.int .u32) (List.replicate 64 (0 : Int))) (by kernel_rfl) ty131 hI (by kernel_rfl) ?_)
      intro b18 w hI
      refine OpsT.done ?_
      refine Qn.then ?_
      refine CodT.seq ?_
      refine CodT.seq ?_
      refine CodT.regionL [0] (by kernel_rfl) ?_
      refine OpsT.pures (r := []) [0] [2, 3, 4, 5, 6, 7, 8] (S' := [(2, .pointer (some ⟨b1, 0, none⟩)), (3, .pointer (some ⟨b5, 0, none⟩)), (4, .pointer (some ⟨b9, 0, none⟩)), (5, .string y11), (6, .int .i64 x14), (7, .pointer (some ⟨b18, 0, none⟩)), (8, .int .i64 0)]) (by kernel_rfl) ?_
      refine OpsT.done ?_
      refine Qn.then ?_
      obtain ⟨r2, h2, h1⟩ := bindS h1
      refine CodT.meet1 (fun a w => ∃ (x19 : (List Int)), x19 = r2 ∧ Fr 216 [(2, .pointer (some ⟨b1, 0, none⟩)), (3, .pointer (some ⟨b5, 0, none⟩)), (4, .pointer (some ⟨b9, 0, none⟩)), (5, .string y11), (6, .int .i64 x14), (7, .pointer (some ⟨b18, 0, none⟩))] a ∧ Inv w0 Z w (star (pt b18 (.cells (cA (Value.int .u32) x19).toArray 131 (0, 0))) (star (pt b9 (.cells (cA (Value.int .u32) y7).toArray 131 (0, 0))) (star (pt b5 (.cells (cA (Value.int .u32) x15).toArray 130 (0, 0))) (star (pt b1 (.cells (cA (Value.int .u8) (List.replicate 32 (0 : Int))).toArray 55 (0, 0))) A)))) ∧ x19.length = 64) ?_ ?_
      ·
        refine CodT.block ?_
        refine (fun a ha => wp_loopN (fun k a w => ∃ (x21 : Int) (x22 : (List Int)), ref02_Of.l1 x14 y11 k x21 x22 = some r2 ∧ Fr 216 [(2, .pointer (some ⟨b1, 0, none⟩)), (3, .pointer (some ⟨b5, 0, none⟩)), (4, .pointer (some ⟨b9, 0, none⟩)), (5, .string y11), (6, .int .i64 x14), (7, .pointer (some ⟨b18, 0, none⟩)), (8, .int .i64 x21)] a ∧ Inv w0 Z w (star (pt b18 (.cells (cA (Value.int .u32) x22).toArray 131 (0, 0))) (star (pt b9 (.cells (cA (Value.int .u32) y7).toArray 131 (0, 0))) (star (pt b5 (.cells (cA (Value.int .u32) x15).toArray 130 (0, 0))) (star (pt b1 (.cells (cA (Value.int .u8) (List.replicate 32 (0 : Int))).toArray 55 (0, 0))) A)))) ∧ x22.length = 64) ?_ FU a w ⟨0, (List.replicate 64 (0 : Int)), h2, ha.keep [2, 3, 4, 5, 6, 7, 8] (by kernel_rfl), hI, (by kernel_rfl)⟩)
        clear h2 hI
        rintro k a w ⟨x21, x22, h2, ha, hI, hl23⟩
        rcases k with _ | k
        · cases h2
        simp only [ref02_Of.l1] at h2
        refine CodT.of ?_ ha
        refine CodT.seq ?_
        refine CodT.seq ?_
        refine CodT.regionL [0, 1] (by kernel_rfl) ?_
        refine OpsT.pures (r := []) [0, 1] [2, 3, 4, 5, 6, 7, 8, 35] (S' := [(2, .pointer (some ⟨b1, 0, none⟩)), (3, .pointer (some ⟨b5, 0, none⟩)), (4, .pointer (some ⟨b9, 0, none⟩)), (5, .string y11), (6, .int .i64 x14), (7, .pointer (some ⟨b18, 0, none⟩)), (8, .int .i64 x21), (35, .bool (decide (x21 < 64)))]) (by kernel_rfl) ?_
        refine OpsT.done ?_
        refine Qn.then ?_
        by_cases hb24 : (decide (x21 < 64)) = true
        · rw [if_pos hb24] at h2
          refine CodT.yes' (b := decide (x21 < 64)) (by kernel_rfl) hb24 ?_
          refine CodT.skip ?_
          refine Qn.then ?_
          obtain ⟨r3, h3, h2⟩ := bindS h2
          refine CodT.meet (fun a w => ∃ (x25 : (List Int)), x25 = r3 ∧ Fr 216 [(2, .pointer (some ⟨b1, 0, none⟩)), (3, .pointer (some ⟨b5, 0, none⟩)), (4, .pointer (some ⟨b9, 0, none⟩)), (5, .string y11), (6, .int .i64 x14), (7, .pointer (some ⟨b18, 0, none⟩)), (8, .int .i64 x21)] a ∧ Inv w0 Z w (star (pt b18 (.cells (cA (Value.int .u32) x25).toArray 131 (0, 0))) (star (pt b9 (.cells (cA (Value.int .u32) y7).toArray 131 (0, 0))) (star (pt b5 (.cells (cA (Value.int .u32) x15).toArray 130 (0, 0))) (star (pt b1 (.cells (cA (Value.int .u8) (List.replicate 32 (0 : Int))).toArray 55 (0, 0))) A)))) ∧ x25.length = 64) ?_ ?_
          ·
            refine CodT.block ?_
            refine CodT.seq ?_
            refine CodT.seq ?_
            refine CodT.regionL [0, 1] (by kernel_rfl) ?_
            refine OpsT.pures (r := []) [0, 1] [2, 3, 4, 5, 6, 7, 8, 39] (S' := [(2, .pointer (some ⟨b1, 0, none⟩)), (3, .pointer (some ⟨b5, 0, none⟩)), (4, .pointer (some ⟨b9, 0, none⟩)), (5, .string y11), (6, .int .i64 x14), (7, .pointer (some ⟨b18, 0, none⟩)), (8, .int .i64 x21), (39, .bool (decide (x21 < 16)))]) (by kernel_rfl) ?_
            refine OpsT.done ?_
            refine Qn.then ?_
            by_cases hb27 : (decide (x21 < 16)) = true
            · rw [if_pos hb27] at h3
              refine CodT.yes' (b := decide (x21 < 16)) (by kernel_rfl) hb27 ?_
              refine CodT.seq ?_
              refine CodT.seq ?_
              refine CodT.regionL [0] (by kernel_rfl) ?_
              refine OpsT.pures (r := []) [0] [2, 3, 4, 5, 6, 7, 8, 9] (S' := [(2, .pointer (some ⟨b1, 0, none⟩)), (3, .pointer (some ⟨b5, 0, none⟩)), (4, .pointer (some ⟨b9, 0, none⟩)), (5, .string y11), (6, .int .i64 x14), (7, .pointer (some ⟨b18, 0, none⟩)), (8, .int .i64 x21), (9, .int .i64 0)]) (by kernel_rfl) ?_
              refine OpsT.done ?_
              refine Qn.then ?_
              obtain ⟨r4, h4, h3⟩ := bindS h3
              refine CodT.meet1 (fun a w => ∃ (x28 : (List Int)), x28 = r4 ∧ Fr 216 [(2, .pointer (some ⟨b1, 0, none⟩)), (3, .pointer (some ⟨b5, 0, none⟩)), (4, .pointer (some ⟨b9, 0, none⟩)), (5, .string y11), (6, .int .i64 x14), (7, .pointer (some ⟨b18, 0, none⟩)), (8, .int .i64 x21)] a ∧ Inv w0 Z w (star (pt b18 (.cells (cA (Value.int .u32) x28).toArray 131 (0, 0))) (star (pt b9 (.cells (cA (Value.int .u32) y7).toArray 131 (0, 0))) (star (pt b5 (.cells (cA (Value.int .u32) x15).toArray 130 (0, 0))) (star (pt b1 (.cells (cA (Value.int .u8) (List.replicate 32 (0 : Int))).toArray 55 (0, 0))) A)))) ∧ x28.length = 64) ?_ ?_
              ·
                refine CodT.block ?_
                refine (fun a ha => wp_loopN (fun k a w => ∃ (x30 : Int) (x31 : (List Int)), ref02_Of.l2 x21 x14 y11 k x30 x31 = some r4 ∧ Fr 216 [(2, .pointer (some ⟨b1, 0, none⟩)), (3, .pointer (some ⟨b5, 0, none⟩)), (4, .pointer (some ⟨b9, 0, none⟩)), (5, .string y11), (6, .int .i64 x14), (7, .pointer (some ⟨b18, 0, none⟩)), (8, .int .i64 x21), (9, .int .i64 x30)] a ∧ Inv w0 Z w (star (pt b18 (.cells (cA (Value.int .u32) x31).toArray 131 (0, 0))) (star (pt b9 (.cells (cA (Value.int .u32) y7).toArray 131 (0, 0))) (star (pt b5 (.cells (cA (Value.int .u32) x15).toArray 130 (0, 0))) (star (pt b1 (.cells (cA (Value.int .u8) (List.replicate 32 (0 : Int))).toArray 55 (0, 0))) A)))) ∧ x31.length = 64) ?_ FU a w ⟨0, x22, h4, ha.keep [2, 3, 4, 5, 6, 7, 8, 9] (by kernel_rfl), hI, hl23⟩)
                clear h4 hI
                rintro k a w ⟨x30, x31, h4, ha, hI, hl32⟩
                rcases k with _ | k
                · cases h4
                simp only [ref02_Of.l2] at h4
                refine CodT.of ?_ ha
                refine CodT.seq ?_
                refine CodT.seq ?_
                refine CodT.regionL [0, 1] (by kernel_rfl) ?_
                refine OpsT.pures (r := []) [0, 1] [2, 3, 4, 5, 6, 7, 8, 9, 41] (S' := [(2, .pointer (some ⟨b1, 0, none⟩)), (3, .pointer (some ⟨b5, 0, none⟩)), (4, .pointer (some ⟨b9, 0, none⟩)), (5, .string y11), (6, .int .i64 x14), (7, .pointer (some ⟨b18, 0, none⟩)), (8, .int .i64 x21), (9, .int .i64 x30), (41, .bool (decide (x30 < 4)))]) (by kernel_rfl) ?_
                refine OpsT.done ?_
                refine Qn.then ?_
                by_cases hb33 : (decide (x30 < 4)) = true
                · rw [if_pos hb33] at h4
                  refine CodT.yes' (b := decide (x30 < 4)) (by kernel_rfl) hb33 ?_
                  refine CodT.skip ?_
                  refine Qn.then ?_
                  refine CodT.seq ?_
                  refine CodT.block ?_
                  refine CodT.drawI (n := 17) [16] (by kernel_rfl) (by kernel_rfl) hI ?_
                  intro w hI
                  refine GmT.p' 0 44 (.int .i64 x21) (by kernel_rfl) (by kernel_rfl) ?_
                  refine GmT.p' 1 45 (.int .i64 x21) (by kernel_rfl) (by kernel_rfl) ?_
                  refine GmT.p' 5 49 (.string y11) (by kernel_rfl) (by kernel_rfl) ?_
                  refine GmT.p' 6 50 (.int .i64 x14) (by kernel_rfl) (by kernel_rfl) ?_
                  refine GmT.p' 7 51 (.int .i64 x21) (by kernel_rfl) (by kernel_rfl) ?_
                  refine GmT.p' 8 52 (.int .i64 (wi64 (4 * x21))) (by kernel_rfl) (by kernel_rfl) ?_
                  refine GmT.p' 9 53 (.int .i64 (wi64 (x14 + (wi64 (4 * x21))))) (by kernel_rfl) (by kernel_rfl) ?_
                  refine GmT.p' 10 54 (.int .i64 x30) (by kernel_rfl) (by kernel_rfl) ?_
                  refine GmT.p' 11 55 (.int .i64 (wi64 ((wi64 (x14 + (wi64 (4 * x21)))) + x30))) (by kernel_rfl) (by kernel_rfl) ?_
                  obtain ⟨hg34, h4⟩ := guardS h4
                  refine GmT.r (i := 2) 2 (by kernel_rfl) (by kernel_rfl) (Yl.indexArr (d := 46) (T := 131) (k := .i64) (j := x21) (g := b18) (o := 0) (by kernel_rfl) Go.Proofs.Try.underlying131 ty129 hg34.1 hg34.2) hI ?_
                  refine GmT.r (i := 3) 2 (by kernel_rfl) (by kernel_rfl) (Yl.load (d := 47) (T := 129) (v := .int .u32 (gt x31 x21)) (by kernel_rfl) (ldB ty129 (l := cA (Value.int .u32) x31) (o := 0 + x21.toNat * 1) (v := .int .u32 (gt x31 x21)) (ent_refl _) (arr_get _ _ hg34.1 (by have := And.intro hl32 hg34.2; omega)))) hI ?_
                  refine GmT.p' 4 48 (.int .u32 (wu32 ((gt x31 x21) * 256))) (by kernel_rfl) (by kernel_rfl) ?_
                  obtain ⟨hg35, h4⟩ := guardS h4
                  refine GmT.r (i := 12) 2 (by kernel_rfl) (by kernel_rfl) (Yl.indexStr (d := 56) (T := 9) (k := .i64) (j := wi64 ((wi64 (x14 + (wi64 (4 * x21)))) + x30)) (s := y11) (by kernel_rfl) Go.Proofs.Try.underlying9 hg35.1 hg35.2) hI ?_
                  refine GmT.p' 13 57 (.int .u32 (wu32 (bt y11 (wi64 ((wi64 (x14 + (wi64 (4 * x21)))) + x30))))) (by kernel_rfl) (by kernel_rfl) ?_
                  refine GmT.p' 14 58 (.int .u32 (wu32 ((wu32 ((gt x31 x21) * 256)) + (wu32 (bt y11 (wi64 ((wi64 (x14 + (wi64 (4 * x21)))) + x30))))))) (by kernel_rfl) (by kernel_rfl) ?_
                  obtain ⟨hg36, h4⟩ := guardS h4
                  refine GmT.r (i := 15) 2 (by kernel_rfl) (by kernel_rfl) (Yl.indexArr (d := 59) (T := 131) (k := .i64) (j := x21) (g := b18) (o := 0) (by kernel_rfl) Go.Proofs.Try.underlying131 ty129 hg36.1 hg36.2) hI ?_
                  refine GmT.o (i := 16) (by kernel_rfl) (Does.storeArr (e := (Value.int .u32)) (xs := x31) (u := wu32 ((wu32 ((gt x31 x21) * 256)) + (wu32 (bt y11 (wi64 ((wi64 (x14 + (wi64 (4 * x21)))) + x30)))))) (T := 129) (b := b18) (j := x21) (by kernel_rfl) ty129 hI (by kernel_rfl) (by kernel_rfl) hg36.1 (by have := And.intro hl32 hg36.2; omega) ?_)
                  intro w hI
                  refine ⟨fun h => absurd h (by decide), ?_⟩
                  refine GmT.done (by kernel_rfl) ?_
                  refine Qn.block_normal ?_
                  refine Qn.then ?_
                  refine CodT.regionL [0, 1, 2] (by kernel_rfl) ?_
                  refine OpsT.pures (r := []) [0, 1, 2] [2, 3, 4, 5, 6, 7, 8, 9] (S' := [(2, .pointer (some ⟨b1, 0, none⟩)), (3, .pointer (some ⟨b5, 0, none⟩)), (4, .pointer (some ⟨b9, 0, none⟩)), (5, .string y11), (6, .int .i64 x14), (7, .pointer (some ⟨b18, 0, none⟩)), (8, .int .i64 x21), (9, .int .i64 (wi64 (x30 + 1)))]) (by kernel_rfl) ?_
                  refine OpsT.done ?_
                  exact Qn.thenJ fun a ha => ⟨k, Nat.lt_succ_self k, wi64 (x30 + 1), st x31 x21 (wu32 ((wu32 ((gt x31 x21) * 256)) + (wu32 (bt y11 (wi64 ((wi64 (x14 + (wi64 (4 * x21)))) + x30)))))), h4, ha.keep [2, 3, 4, 5, 6, 7, 8, 9] (by kernel_rfl), hI, ((st_length _ _ _).trans hl32)⟩
                · rw [if_neg hb33] at h4
                  refine CodT.no' (b := decide (x30 < 4)) (by kernel_rfl) (by simpa using hb33) ?_
                  refine CodT.exit ?_
                  refine Qn.exit_then ?_
                  refine Qn.exit_then ?_
                  refine Qn.block ?_
                  have e := someS h4
                  subst e
                  exact Qn.thenJ fun a ha => ⟨x31, rfl, ha.keep [2, 3, 4, 5, 6, 7, 8] (by kernel_rfl), hI, hl32⟩
              ·
                rintro a w ⟨x28, rfl, ha, hI, hl29⟩
                try dsimp only at h3
                refine Qn.of ?_ ha
                refine Qn.then ?_
                refine CodT.exit ?_
                refine Qn.exit_then ?_
                refine Qn.block ?_
                have e := someS h3
                subst e
                exact Qn.thenJ fun a ha => ⟨x28, rfl, ha.keep [2, 3, 4, 5, 6, 7, 8] (by kernel_rfl), hI, hl29⟩
            · rw [if_neg hb27] at h3
              refine CodT.no' (b := decide (x21 < 16)) (by kernel_rfl) (by simpa using hb27) ?_
              refine CodT.skip ?_
              refine Qn.then ?_
              refine CodT.seq ?_
              refine CodT.regionL [0, 1, 2, 3, 4] (by kernel_rfl) ?_
              refine OpsT.pures (r := [2, 3, 4]) [0, 1] [2, 3, 4, 5, 6, 7, 8, 61] (S' := [(2, .pointer (some ⟨b1, 0, none⟩)), (3, .pointer (some ⟨b5, 0, none⟩)), (4, .pointer (some ⟨b9, 0, none⟩)), (5, .string y11), (6, .int .i64 x14), (7, .pointer (some ⟨b18, 0, none⟩)), (8, .int .i64 x21), (61, .int .i64 (wi64 (x21 - 15)))]) (by kernel_rfl) ?_
              obtain ⟨hg37, h3⟩ := guardS h3
              refine OpsT.cons (Does.yi (Yl.indexArr (d := 62) (T := 131) (k := .i64) (j := wi64 (x21 - 15)) (g := b18) (o := 0) (by kernel_rfl) Go.Proofs.Try.underlying131 ty129 hg37.1 hg37.2) hI ?_)
              refine OpsT.cons (Does.yi (Yl.load (d := 63) (T := 129) (v := .int .u32 (gt x22 (wi64 (x21 - 15)))) (by kernel_rfl) (ldB ty129 (l := cA (Value.int .u32) x22) (o := 0 + (wi64 (x21 - 15)).toNat * 1) (v := .int .u32 (gt x22 (wi64 (x21 - 15)))) (ent_refl _) (arr_get _ _ hg37.1 (by have := And.intro hl23 hg37.2; omega)))) hI ?_)
              refine OpsT.pures (r := []) [4] [2, 3, 4, 5, 6, 7, 8, 10] (S' := [(2, .pointer (some ⟨b1, 0, none⟩)), (3, .pointer (some ⟨b5, 0, none⟩)), (4, .pointer (some ⟨b9, 0, none⟩)), (5, .string y11), (6, .int .i64 x14), (7, .pointer (some ⟨b18, 0, none⟩)), (8, .int .i64 x21), (10, .int .u32 (gt x22 (wi64 (x21 - 15))))]) (by kernel_rfl) ?_
              refine OpsT.done ?_
              refine Qn.then ?_
              refine CodT.seq ?_
              refine CodT.regionL [0, 1, 2, 3, 4] (by kernel_rfl) ?_
              refine OpsT.pures (r := [2, 3, 4]) [0, 1] [2, 3, 4, 5, 6, 7, 8, 10, 65] (S' := [(2, .pointer (some ⟨b1, 0, none⟩)), (3, .pointer (some ⟨b5, 0, none⟩)), (4, .pointer (some ⟨b9, 0, none⟩)), (5, .string y11), (6, .int .i64 x14), (7, .pointer (some ⟨b18, 0, none⟩)), (8, .int .i64 x21), (10, .int .u32 (gt x22 (wi64 (x21 - 15)))), (65, .int .i64 (wi64 (x21 - 2)))]) (by kernel_rfl) ?_
              obtain ⟨hg38, h3⟩ := guardS h3
              refine OpsT.cons (Does.yi (Yl.indexArr (d := 66) (T := 131) (k := .i64) (j := wi64 (x21 - 2)) (g := b18) (o := 0) (by kernel_rfl) Go.Proofs.Try.underlying131 ty129 hg38.1 hg38.2) hI ?_)
              refine OpsT.cons (Does.yi (Yl.load (d := 67) (T := 129) (v := .int .u32 (gt x22 (wi64 (x21 - 2)))) (by kernel_rfl) (ldB ty129 (l := cA (Value.int .u32) x22) (o := 0 + (wi64 (x21 - 2)).toNat * 1) (v := .int .u32 (gt x22 (wi64 (x21 - 2)))) (ent_refl _) (arr_get _ _ hg38.1 (by have := And.intro hl23 hg38.2; omega)))) hI ?_)
              refine OpsT.pures (r := []) [4] [2, 3, 4, 5, 6, 7, 8, 10, 11] (S' := [(2, .pointer (some ⟨b1, 0, none⟩)), (3, .pointer (some ⟨b5, 0, none⟩)), (4, .pointer (some ⟨b9, 0, none⟩)), (5, .string y11), (6, .int .i64 x14), (7, .pointer (some ⟨b18, 0, none⟩)), (8, .int .i64 x21), (10, .int .u32 (gt x22 (wi64 (x21 - 15)))), (11, .int .u32 (gt x22 (wi64 (x21 - 2))))]) (by kernel_rfl) ?_
              refine OpsT.done ?_
              refine Qn.then ?_
              refine CodT.drawI (n := 30) [29] (by kernel_rfl) (by kernel_rfl) hI ?_
              intro w hI
              refine GmT.p' 0 68 (.int .i64 x21) (by kernel_rfl) (by kernel_rfl) ?_
              refine GmT.p' 1 69 (.int .u32 (gt x22 (wi64 (x21 - 2)))) (by kernel_rfl) (by kernel_rfl) ?_
              refine GmT.p' 3 71 (.int .u32 (gt x22 (wi64 (x21 - 2)))) (by kernel_rfl) (by kernel_rfl) ?_
              refine GmT.p' 6 74 (.int .u32 (gt x22 (wi64 (x21 - 2)))) (by kernel_rfl) (by kernel_rfl) ?_
              refine GmT.p' 9 77 (.int .i64 x21) (by kernel_rfl) (by kernel_rfl) ?_
              refine GmT.p' 10 78 (.int .i64 (wi64 (x21 - 7))) (by kernel_rfl) (by kernel_rfl) ?_
              refine GmT.p' 14 82 (.int .u32 (gt x22 (wi64 (x21 - 15)))) (by kernel_rfl) (by kernel_rfl) ?_
              refine GmT.p' 16 84 (.int .u32 (gt x22 (wi64 (x21 - 15)))) (by kernel_rfl) (by kernel_rfl) ?_
              refine GmT.p' 19 87 (.int .u32 (gt x22 (wi64 (x21 - 15)))) (by kernel_rfl) (by kernel_rfl) ?_
              refine GmT.p' 23 91 (.int .i64 x21) (by kernel_rfl) (by kernel_rfl) ?_
              refine GmT.p' 24 92 (.int .i64 (wi64 (x21 - 16))) (by kernel_rfl) (by kernel_rfl) ?_
              obtain ⟨hg39, h3⟩ := guardS h3
              refine GmT.r (i := 11) 2 (by kernel_rfl) (by kernel_rfl) (Yl.indexArr (d := 79) (T := 131) (k := .i64) (j := wi64 (x21 - 7)) (g := b18) (o := 0) (by kernel_rfl) Go.Proofs.Try.underlying131 ty129 hg39.1 hg39.2) hI ?_
              refine GmT.r (i := 12) 2 (by kernel_rfl) (by kernel_rfl) (Yl.load (d := 80) (T := 129) (v := .int .u32 (gt x22 (wi64 (x21 - 7)))) (by kernel_rfl) (ldB ty129 (l := cA (Value.int .u32) x22) (o := 0 + (wi64 (x21 - 7)).toNat * 1) (v := .int .u32 (gt x22 (wi64 (x21 - 7)))) (ent_refl _) (arr_get _ _ hg39.1 (by have := And.intro hl23 hg39.2; omega)))) hI ?_
              obtain ⟨hg40, h3⟩ := guardS h3
              refine GmT.r (i := 25) 2 (by kernel_rfl) (by kernel_rfl) (Yl.indexArr (d := 93) (T := 131) (k := .i64) (j := wi64 (x21 - 16)) (g := b18) (o := 0) (by kernel_rfl) Go.Proofs.Try.underlying131 ty129 hg40.1 hg40.2) hI ?_
              refine GmT.r (i := 26) 2 (by kernel_rfl) (by kernel_rfl) (Yl.load (d := 94) (T := 129) (v := .int .u32 (gt x22 (wi64 (x21 - 16)))) (by kernel_rfl) (ldB ty129 (l := cA (Value.int .u32) x22) (o := 0 + (wi64 (x21 - 16)).toNat * 1) (v := .int .u32 (gt x22 (wi64 (x21 - 16)))) (ent_refl _) (arr_get _ _ hg40.1 (by have := And.intro hl23 hg40.2; omega)))) hI ?_
              obtain ⟨y42, hc41, h3⟩ := bindS h3
              try dsimp only at h3
              refine GmT.o (i := 2) (by kernel_rfl) (Does.call (d := some 70) (n := 115) (vs := [.int .u32 (gt x22 (wi64 (x21 - 2))), .int .i64 17]) (by kernel_rfl) en115 (c115 w0 w _ _ hI (gt x22 (wi64 (x21 - 2))) 17 _ hc41) ?_)
              rintro e w ⟨rfl, hI⟩
              refine ⟨_, rfl, ?_⟩
              refine ⟨fun _ _ => hI, ?_⟩
              obtain ⟨y44, hc43, h3⟩ := bindS h3
              try dsimp only at h3
              refine GmT.o (i := 4) (by kernel_rfl) (Does.call (d := some 72) (n := 115) (vs := [.int .u32 (gt x22 (wi64 (x21 - 2))), .int .i64 19]) (by kernel_rfl) en115 (c115 w0 w _ _ hI (gt x22 (wi64 (x21 - 2))) 19 _ hc43) ?_)
              rintro e w ⟨rfl, hI⟩
              refine ⟨_, rfl, ?_⟩
              refine ⟨fun _ _ => hI, ?_⟩
              refine GmT.p' 5 73 (.int .u32 (bXor .u32 y42 y44)) (by kernel_rfl) (by kernel_rfl) ?_
              obtain ⟨y46, hc45, h3⟩ := bindS h3
              try dsimp only at h3
              refine GmT.o (i := 7) (by kernel_rfl) (Does.call (d := some 75) (n := 116) (vs := [.int .u32 (gt x22 (wi64 (x21 - 2))), .int .i64 10]) (by kernel_rfl) en116 (c116 w0 w _ _ hI (gt x22 (wi64 (x21 - 2))) 10 _ hc45) ?_)
              rintro e w ⟨rfl, hI⟩
              refine ⟨_, rfl, ?_⟩
              refine ⟨fun _ _ => hI, ?_⟩
              refine GmT.p' 8 76 (.int .u32 (bXor .u32 (bXor .u32 y42 y44) y46)) (by kernel_rfl) (by kernel_rfl) ?_
              refine GmT.p' 13 81 (.int .u32 (wu32 ((bXor .u32 (bXor .u32 y42 y44) y46) + (gt x22 (wi64 (x21 - 7)))))) (by kernel_rfl) (by kernel_rfl) ?_
              obtain ⟨y48, hc47, h3⟩ := bindS h3
              try dsimp only at h3
              refine GmT.o (i := 15) (by kernel_rfl) (Does.call (d := some 83) (n := 115) (vs := [.int .u32 (gt x22 (wi64 (x21 - 15))), .int .i64 7]) (by kernel_rfl) en115 (c115 w0 w _ _ hI (gt x22 (wi64 (x21 - 15))) 7 _ hc47) ?_)
              rintro e w ⟨rfl, hI⟩
              refine ⟨_, rfl, ?_⟩
              refine ⟨fun _ _ => hI, ?_⟩
              obtain ⟨y50, hc49, h3⟩ := bindS h3
              try dsimp only at h3
              refine GmT.o (i := 17) (by kernel_rfl) (Does.call (d := some 85) (n := 115) (vs := [.int .u32 (gt x22 (wi64 (x21 - 15))), .int .i64 18]) (by kernel_rfl) en115 (c115 w0 w _ _ hI (gt x22 (wi64 (x21 - 15))) 18 _ hc49) ?_)
              rintro e w ⟨rfl, hI⟩
              refine ⟨_, rfl, ?_⟩
              refine ⟨fun _ _ => hI, ?_⟩
              refine GmT.p' 18 86 (.int .u32 (bXor .u32 y48 y50)) (by kernel_rfl) (by kernel_rfl) ?_
              obtain ⟨y52, hc51, h3⟩ := bindS h3
              try dsimp only at h3
              refine GmT.o (i := 20) (by kernel_rfl) (Does.call (d := some 88) (n := 116) (vs := [.int .u32 (gt x22 (wi64 (x21 - 15))), .int .i64 3]) (by kernel_rfl) en116 (c116 w0 w _ _ hI (gt x22 (wi64 (x21 - 15))) 3 _ hc51) ?_)
              rintro e w ⟨rfl, hI⟩
              refine ⟨_, rfl, ?_⟩
              refine ⟨fun _ _ => hI, ?_⟩
              refine GmT.p' 21 89 (.int .u32 (bXor .u32 (bXor .u32 y48 y50) y52)) (by kernel_rfl) (by kernel_rfl) ?_
              refine GmT.p' 22 90 (.int .u32 (wu32 ((wu32 ((bXor .u32 (bXor .u32 y42 y44) y46) + (gt x22 (wi64 (x21 - 7))))) + (bXor .u32 (bXor .u32 y48 y50) y52)))) (by kernel_rfl) (by kernel_rfl) ?_
              refine GmT.p' 27 95 (.int .u32 (wu32 ((wu32 ((wu32 ((bXor .u32 (bXor .u32 y42 y44) y46) + (gt x22 (wi64 (x21 - 7))))) + (bXor .u32 (bXor .u32 y48 y50) y52))) + (gt x22 (wi64 (x21 - 16)))))) (by kernel_rfl) (by kernel_rfl) ?_
              obtain ⟨hg53, h3⟩ := guardS h3
              refine GmT.r (i := 28) 2 (by kernel_rfl) (by kernel_rfl) (Yl.indexArr (d := 96) (T := 131) (k := .i64) (j := x21) (g := b18) (o := 0) (by kernel_rfl) Go.Proofs.Try.underlying131 ty129 hg53.1 hg53.2) hI ?_
              refine GmT.o (i := 29) (by kernel_rfl) (Does.storeArr (e := (Value.int .u32)) (xs := x22) (u := wu32 ((wu32 ((wu32 ((bXor .u32 (bXor .u32 y42 y44) y46) + (gt x22 (wi64 (x21 - 7))))) + (bXor .u32 (bXor .u32 y48 y50) y52))) + (gt x22 (wi64 (x21 - 16))))) (T := 129) (b := b18) (j := x21) (by kernel_rfl) ty129 hI (by kernel_rfl) (by kernel_rfl) hg53.1 (by have := And.intro hl23 hg53.2; omega) ?_)
              intro w hI
              refine ⟨fun h => absurd h (by decide), ?_⟩
              refine GmT.done (by kernel_rfl) ?_
              refine Qn.block_normal ?_
              have e := someS h3
              subst e
              exact Qn.thenJ fun a ha => ⟨st x22 x21 (wu32 ((wu32 ((wu32 ((bXor .u32 (bXor .u32 y42 y44) y46) + (gt x22 (wi64 (x21 - 7))))) + (bXor .u32 (bXor .u32 y48 y50) y52))) + (gt x22 (wi64 (x21 - 16))))), rfl, ha.keep [2, 3, 4, 5, 6, 7, 8] (by kernel_rfl), hI, ((st_length _ _ _).trans hl23)⟩
          ·
            rintro a w ⟨x25, rfl, ha, hI, hl26⟩
            try dsimp only at h2
            refine CodT.of ?_ ha
            refine CodT.regionL [0, 1, 2] (by kernel_rfl) ?_
            refine OpsT.pures (r := []) [0, 1, 2] [2, 3, 4, 5, 6, 7, 8] (S' := [(2, .pointer (some ⟨b1, 0, none⟩)), (3, .pointer (some ⟨b5, 0, none⟩)), (4, .pointer (some ⟨b9, 0, none⟩)), (5, .string y11), (6, .int .i64 x14), (7, .pointer (some ⟨b18, 0, none⟩)), (8, .int .i64 (wi64 (x21 + 1)))]) (by kernel_rfl) ?_
            refine OpsT.done ?_
            exact Qn.thenJ fun a ha => ⟨k, Nat.lt_succ_self k, wi64 (x21 + 1), x25, h2, ha.keep [2, 3, 4, 5, 6, 7, 8] (by kernel_rfl), hI, hl26⟩
        · rw [if_neg hb24] at h2
          refine CodT.no' (b := decide (x21 < 64)) (by kernel_rfl) (by simpa using hb24) ?_
          refine CodT.exit ?_
          refine Qn.exit_then ?_
          refine Qn.exit_then ?_
          refine Qn.block ?_
          have e := someS h2
          subst e
          exact Qn.thenJ fun a ha => ⟨x22, rfl, ha.keep [2, 3, 4, 5, 6, 7] (by kernel_rfl), hI, hl23⟩
      ·
        rintro a w ⟨x19, rfl, ha, hI, hl20⟩
        try dsimp only at h1
        refine Qn.of ?_ ha
        refine Qn.then ?_
        refine CodT.seq ?_
        refine CodT.regionL [0, 1, 2] (by kernel_rfl) ?_
        refine OpsT.cons (Does.yi (Yl.load (d := 97) (T := 130) (v := .agg (cA (Value.int .u32) x15).toArray) (by kernel_rfl) (ldBN ty130 (l := cA (Value.int .u32) x15) (o := 0) (cs := cA (Value.int .u32) x15) (pick3 _ _ _ _) ((cA_length _ _).trans hl16) (whole _ _ ((cA_length _ _).trans hl16)))) hI ?_)
        refine OpsT.cons (Does.allocL (d := 12) (T := 130) (cA (Value.int .u32) (List.replicate 8 (0 : Int))) (by kernel_rfl) ty130 hI (by kernel_rfl) ?_)
        intro b54 w hI
        refine OpsT.cons (Does.storeAll (T := 130) (b := b54) (n := 8) (xs := (List.replicate 8 (0 : Int))) (ys := x15) (by kernel_rfl) ty130 hI (fun _ => rfl) (by kernel_rfl) hl16 ?_)
        intro w hI
        refine OpsT.done ?_
        refine Qn.then ?_
        refine CodT.seq ?_
        refine CodT.seq ?_
        refine CodT.regionL [0] (by kernel_rfl) ?_
        refine OpsT.pures (r := []) [0] [2, 3, 4, 5, 6, 7, 12, 13] (S' := [(2, .pointer (some ⟨b1, 0, none⟩)), (3, .pointer (some ⟨b5, 0, none⟩)), (4, .pointer (some ⟨b9, 0, none⟩)), (5, .string y11), (6, .int .i64 x14), (7, .pointer (some ⟨b18, 0, none⟩)), (12, .pointer (some ⟨b54, 0, none⟩)), (13, .int .i64 0)]) (by kernel_rfl) ?_
        refine OpsT.done ?_
        refine Qn.then ?_
        obtain ⟨r2, h2, h1⟩ := bindS h1
        refine CodT.meet1 (fun a w => ∃ (x55 : (List Int)), x55 = r2 ∧ Fr 216 [(2, .pointer (some ⟨b1, 0, none⟩)), (3, .pointer (some ⟨b5, 0, none⟩)), (4, .pointer (some ⟨b9, 0, none⟩)), (5, .string y11), (6, .int .i64 x14), (12, .pointer (some ⟨b54, 0, none⟩))] a ∧ Inv w0 Z w (star (pt b54 (.cells (cA (Value.int .u32) x55).toArray 130 (0, 0))) (star (pt b9 (.cells (cA (Value.int .u32) y7).toArray 131 (0, 0))) (star (pt b5 (.cells (cA (Value.int .u32) x15).toArray 130 (0, 0))) (star (pt b1 (.cells (cA (Value.int .u8) (List.replicate 32 (0 : Int))).toArray 55 (0, 0))) A)))) ∧ x55.length = 8) ?_ ?_
        ·
          refine CodT.block ?_
          refine (fun a ha => wp_loopN (fun k a w => ∃ (x57 : Int) (x58 : (List Int)), ref02_Of.l3 y7 x19 k x57 x58 = some r2 ∧ Fr 216 [(2, .pointer (some ⟨b1, 0, none⟩)), (3, .pointer (some ⟨b5, 0, none⟩)), (4, .pointer (some ⟨b9, 0, none⟩)), (5, .string y11), (6, .int .i64 x14), (7, .pointer (some ⟨b18, 0, none⟩)), (12, .pointer (some ⟨b54, 0, none⟩)), (13, .int .i64 x57)] a ∧ Inv w0 Z w (star (pt b54 (.cells (cA (Value.int .u32) x58).toArray 130 (0, 0))) (star (pt b18 (.cells (cA (Value.int .u32) x19).toArray 131 (0, 0))) (star (pt b9 (.cells (cA (Value.int .u32) y7).toArray 131 (0, 0))) (star (pt b5 (.cells (cA (Value.int .u32) x15).toArray 130 (0, 0))) (star (pt b1 (.cells (cA (Value.int .u8) (List.replicate 32 (0 : Int))).toArray 55 (0, 0))) A))))) ∧ x58.length = 8) ?_ FU a w ⟨0, x15, h2, ha.keep [2, 3, 4, 5, 6, 7, 12, 13] (by kernel_rfl), hI, hl16⟩)
          clear h2 hI
          rintro k a w ⟨x57, x58, h2, ha, hI, hl59⟩
          rcases k with _ | k
          · cases h2
          simp only [ref02_Of.l3] at h2
          refine CodT.of ?_ ha
          refine CodT.seq ?_
          refine CodT.seq ?_
          refine CodT.regionL [0, 1] (by kernel_rfl) ?_
          refine OpsT.pures (r := []) [0, 1] [2, 3, 4, 5, 6, 7, 12, 13, 99] (S' := [(2, .pointer (some ⟨b1, 0, none⟩)), (3, .pointer (some ⟨b5, 0, none⟩)), (4, .pointer (some ⟨b9, 0, none⟩)), (5, .string y11), (6, .int .i64 x14), (7, .pointer (some ⟨b18, 0, none⟩)), (12, .pointer (some ⟨b54, 0, none⟩)), (13, .int .i64 x57), (99, .bool (decide (x57 < 64)))]) (by kernel_rfl) ?_
          refine OpsT.done ?_
          refine Qn.then ?_
          by_cases hb60 : (decide (x57 < 64)) = true
          · rw [if_pos hb60] at h2
            refine CodT.yes' (b := decide (x57 < 64)) (by kernel_rfl) hb60 ?_
            refine CodT.skip ?_
            refine Qn.then ?_
            refine CodT.seq ?_
            refine CodT.block ?_
            refine CodT.seq ?_
            refine CodT.regionL [0, 1, 2] (by kernel_rfl) ?_
            refine OpsT.pures (r := [1, 2]) [0] [2, 3, 4, 5, 6, 7, 12, 13, 102] (S' := [(2, .pointer (some ⟨b1, 0, none⟩)), (3, .pointer (some ⟨b5, 0, none⟩)), (4, .pointer (some ⟨b9, 0, none⟩)), (5, .string y11), (6, .int .i64 x14), (7, .pointer (some ⟨b18, 0, none⟩)), (12, .pointer (some ⟨b54, 0, none⟩)), (13, .int .i64 x57), (102, .pointer (some ⟨b54, 4, none⟩))]) (by kernel_rfl) ?_
            refine OpsT.cons (Does.yi (Yl.load (d := 103) (T := 129) (v := .int .u32 (gt x58 4)) (by kernel_rfl) (ldB ty129 (l := cA (Value.int .u32) x58) (o := 4) (v := .int .u32 (gt x58 4)) (ent_refl _) (arr_getC _ _ 4 hl59 (by kernel_rfl)))) hI ?_)
            refine OpsT.pures (r := []) [2] [2, 3, 4, 5, 6, 7, 12, 13, 14] (S' := [(2, .pointer (some ⟨b1, 0, none⟩)), (3, .pointer (some ⟨b5, 0, none⟩)), (4, .pointer (some ⟨b9, 0, none⟩)), (5, .string y11), (6, .int .i64 x14), (7, .pointer (some ⟨b18, 0, none⟩)), (12, .pointer (some ⟨b54, 0, none⟩)), (13, .int .i64 x57), (14, .int .u32 (gt x58 4))]) (by kernel_rfl) ?_
            refine OpsT.done ?_
            refine Qn.then ?_
            refine CodT.seq ?_
            refine CodT.regionL [0, 1, 2] (by kernel_rfl) ?_
            refine OpsT.pures (r := [1, 2]) [0] [2, 3, 4, 5, 6, 7, 12, 13, 14, 104] (S' := [(2, .pointer (some ⟨b1, 0, none⟩)), (3, .pointer (some ⟨b5, 0, none⟩)), (4, .pointer (some ⟨b9, 0, none⟩)), (5, .string y11), (6, .int .i64 x14), (7, .pointer (some ⟨b18, 0, none⟩)), (12, .pointer (some ⟨b54, 0, none⟩)), (13, .int .i64 x57), (14, .int .u32 (gt x58 4)), (104, .pointer (some ⟨b54, 0, none⟩))]) (by kernel_rfl) ?_
            refine OpsT.cons (Does.yi (Yl.load (d := 105) (T := 129) (v := .int .u32 (gt x58 0)) (by kernel_rfl) (ldB ty129 (l := cA (Value.int .u32) x58) (o := 0) (v := .int .u32 (gt x58 0)) (ent_refl _) (arr_getC _ _ 0 hl59 (by kernel_rfl)))) hI ?_)
            refine OpsT.pures (r := []) [2] [2, 3, 4, 5, 6, 7, 12, 13, 14, 15] (S' := [(2, .pointer (some ⟨b1, 0, none⟩)), (3, .pointer (some ⟨b5, 0, none⟩)), (4, .pointer (some ⟨b9, 0, none⟩)), (5, .string y11), (6, .int .i64 x14), (7, .pointer (some ⟨b18, 0, none⟩)), (12, .pointer (some ⟨b54, 0, none⟩)), (13, .int .i64 x57), (14, .int .u32 (gt x58 4)), (15, .int .u32 (gt x58 0))]) (by kernel_rfl) ?_
            refine OpsT.done ?_
            refine Qn.then ?_
            refine CodT.seq ?_
            refine CodT.regionL [0, 1, 2] (by kernel_rfl) ?_
            refine OpsT.pures (r := []) [0, 1, 2] [2, 3, 4, 5, 6, 7, 12, 13, 14, 15, 16] (S' := [(2, .pointer (some ⟨b1, 0, none⟩)), (3, .pointer (some ⟨b5, 0, none⟩)), (4, .pointer (some ⟨b9, 0, none⟩)), (5, .string y11), (6, .int .i64 x14), (7, .pointer (some ⟨b18, 0, none⟩)), (12, .pointer (some ⟨b54, 0, none⟩)), (13, .int .i64 x57), (14, .int .u32 (gt x58 4)), (15, .int .u32 (gt x58 0)), (16, .int .u32 (wu32 (4294967295 - (gt x58 4))))]) (by kernel_rfl) ?_
            refine OpsT.done ?_
            refine Qn.then ?_
            refine CodT.seq ?_
            refine CodT.drawI (n := 30) [] (by kernel_rfl) (by kernel_rfl) hI ?_
            intro w hI
            refine GmT.p' 0 108 (.pointer (some ⟨b54, 7, none⟩)) (by kernel_rfl) (by kernel_rfl) ?_
            refine GmT.p' 2 110 (.int .u32 (gt x58 4)) (by kernel_rfl) (by kernel_rfl) ?_
            refine GmT.p' 4 112 (.int .u32 (gt x58 4)) (by kernel_rfl) (by kernel_rfl) ?_
            refine GmT.p' 7 115 (.int .u32 (gt x58 4)) (by kernel_rfl) (by kernel_rfl) ?_
            refine GmT.p' 11 119 (.int .u32 (gt x58 4)) (by kernel_rfl) (by kernel_rfl) ?_
            refine GmT.p' 12 120 (.pointer (some ⟨b54, 5, none⟩)) (by kernel_rfl) (by kernel_rfl) ?_
            refine GmT.p' 15 123 (.int .u32 (wu32 (4294967295 - (gt x58 4)))) (by kernel_rfl) (by kernel_rfl) ?_
            refine GmT.p' 16 124 (.pointer (some ⟨b54, 6, none⟩)) (by kernel_rfl) (by kernel_rfl) ?_
            refine GmT.p' 21 129 (.int .i64 x57) (by kernel_rfl) (by kernel_rfl) ?_
            refine GmT.p' 25 133 (.int .i64 x57) (by kernel_rfl) (by kernel_rfl) ?_
            refine GmT.r (i := 1) 2 (by kernel_rfl) (by kernel_rfl) (Yl.load (d := 109) (T := 129) (v := .int .u32 (gt x58 7)) (by kernel_rfl) (ldB ty129 (l := cA (Value.int .u32) x58) (o := 7) (v := .int .u32 (gt x58 7)) (ent_refl _) (arr_getC _ _ 7 hl59 (by kernel_rfl)))) hI ?_
            refine GmT.r (i := 13) 2 (by kernel_rfl) (by kernel_rfl) (Yl.load (d := 121) (T := 129) (v := .int .u32 (gt x58 5)) (by kernel_rfl) (ldB ty129 (l := cA (Value.int .u32) x58) (o := 5) (v := .int .u32 (gt x58 5)) (ent_refl _) (arr_getC _ _ 5 hl59 (by kernel_rfl)))) hI ?_
            refine GmT.p' 14 122 (.int .u32 (bAnd .u32 (gt x58 4) (gt x58 5))) (by kernel_rfl) (by kernel_rfl) ?_
            refine GmT.r (i := 17) 2 (by kernel_rfl) (by kernel_rfl) (Yl.load (d := 125) (T := 129) (v := .int .u32 (gt x58 6)) (by kernel_rfl) (ldB ty129 (l := cA (Value.int .u32) x58) (o := 6) (v := .int .u32 (gt x58 6)) (ent_refl _) (arr_getC _ _ 6 hl59 (by kernel_rfl)))) hI ?_
            refine GmT.p' 18 126 (.int .u32 (bAnd .u32 (wu32 (4294967295 - (gt x58 4))) (gt x58 6))) (by kernel_rfl) (by kernel_rfl) ?_
            refine GmT.p' 19 127 (.int .u32 (bXor .u32 (bAnd .u32 (gt x58 4) (gt x58 5)) (bAnd .u32 (wu32 (4294967295 - (gt x58 4))) (gt x58 6)))) (by kernel_rfl) (by kernel_rfl) ?_
            obtain ⟨hg61, h2⟩ := guardS h2
            refine GmT.r (i := 22) 2 (by kernel_rfl) (by kernel_rfl) (Yl.indexArr (d := 130) (T := 131) (k := .i64) (j := x57) (g := b9) (o := 0) (by kernel_rfl) Go.Proofs.Try.underlying131 ty129 hg61.1 hg61.2) hI ?_
            refine GmT.r (i := 23) 2 (by kernel_rfl) (by kernel_rfl) (Yl.load (d := 131) (T := 129) (v := .int .u32 (gt y7 x57)) (by kernel_rfl) (ldB ty129 (l := cA (Value.int .u32) y7) (o := 0 + x57.toNat * 1) (v := .int .u32 (gt y7 x57)) (pick3 _ _ _ _) (arr_get _ _ hg61.1 (by have := And.intro hl8 hg61.2; omega)))) hI ?_
            obtain ⟨hg62, h2⟩ := guardS h2
            refine GmT.r (i := 26) 2 (by kernel_rfl) (by kernel_rfl) (Yl.indexArr (d := 134) (T := 131) (k := .i64) (j := x57) (g := b18) (o := 0) (by kernel_rfl) Go.Proofs.Try.underlying131 ty129 hg62.1 hg62.2) hI ?_
            refine GmT.r (i := 27) 2 (by kernel_rfl) (by kernel_rfl) (Yl.load (d := 135) (T := 129) (v := .int .u32 (gt x19 x57)) (by kernel_rfl) (ldB ty129 (l := cA (Value.int .u32) x19) (o := 0 + x57.toNat * 1) (v := .int .u32 (gt x19 x57)) (pick2 _ _ _) (arr_get _ _ hg62.1 (by have := And.intro hl20 hg62.2; omega)))) hI ?_
            obtain ⟨y64, hc63, h2⟩ := bindS h2
            try dsimp only at h2
            refine GmT.o (i := 3) (by kernel_rfl) (Does.call (d := some 111) (n := 115) (vs := [.int .u32 (gt x58 4), .int .i64 6]) (by kernel_rfl) en115 (c115 w0 w _ _ hI (gt x58 4) 6 _ hc63) ?_)
            rintro e w ⟨rfl, hI⟩
            refine ⟨_, rfl, ?_⟩
            refine ⟨fun _ _ => hI, ?_⟩
            obtain ⟨y66, hc65, h2⟩ := bindS h2
            try dsimp only at h2
            refine GmT.o (i := 5) (by kernel_rfl) (Does.call (d := some 113) (n := 115) (vs := [.int .u32 (gt x58 4), .int .i64 11]) (by kernel_rfl) en115 (c115 w0 w _ _ hI (gt x58 4) 11 _ hc65) ?_)
            rintro e w ⟨rfl, hI⟩
            refine ⟨_, rfl, ?_⟩
            refine ⟨fun _ _ => hI, ?_⟩
            refine GmT.p' 6 114 (.int .u32 (bXor .u32 y64 y66)) (by kernel_rfl) (by kernel_rfl) ?_
            obtain ⟨y68, hc67, h2⟩ := bindS h2
            try dsimp only at h2
            refine GmT.o (i := 8) (by kernel_rfl) (Does.call (d := some 116) (n := 115) (vs := [.int .u32 (gt x58 4), .int .i64 25]) (by kernel_rfl) en115 (c115 w0 w _ _ hI (gt x58 4) 25 _ hc67) ?_)
            rintro e w ⟨rfl, hI⟩
            refine ⟨_, rfl, ?_⟩
            refine ⟨fun _ _ => hI, ?_⟩
            refine GmT.p' 9 117 (.int .u32 (bXor .u32 (bXor .u32 y64 y66) y68)) (by kernel_rfl) (by kernel_rfl) ?_
            refine GmT.p' 10 118 (.int .u32 (wu32 ((gt x58 7) + (bXor .u32 (bXor .u32 y64 y66) y68)))) (by kernel_rfl) (by kernel_rfl) ?_
            refine GmT.p' 20 128 (.int .u32 (wu32 ((wu32 ((gt x58 7) + (bXor .u32 (bXor .u32 y64 y66) y68))) + (bXor .u32 (bAnd .u32 (gt x58 4) (gt x58 5)) (bAnd .u32 (wu32 (4294967295 - (gt x58 4))) (gt x58 6)))))) (by kernel_rfl) (by kernel_rfl) ?_
            refine GmT.p' 24 132 (.int .u32 (wu32 ((wu32 ((wu32 ((gt x58 7) + (bXor .u32 (bXor .u32 y64 y66) y68))) + (bXor .u32 (bAnd .u32 (gt x58 4) (gt x58 5)) (bAnd .u32 (wu32 (4294967295 - (gt x58 4))) (gt x58 6))))) + (gt y7 x57)))) (by kernel_rfl) (by kernel_rfl) ?_
            refine GmT.p' 28 136 (.int .u32 (wu32 ((wu32 ((wu32 ((wu32 ((gt x58 7) + (bXor .u32 (bXor .u32 y64 y66) y68))) + (bXor .u32 (bAnd .u32 (gt x58 4) (gt x58 5)) (bAnd .u32 (wu32 (4294967295 - (gt x58 4))) (gt x58 6))))) + (gt y7 x57))) + (gt x19 x57)))) (by kernel_rfl) (by kernel_rfl) ?_
            refine GmT.p' 29 17 (.int .u32 (wu32 ((wu32 ((wu32 ((wu32 ((gt x58 7) + (bXor .u32 (bXor .u32 y64 y66) y68))) + (bXor .u32 (bAnd .u32 (gt x58 4) (gt x58 5)) (bAnd .u32 (wu32 (4294967295 - (gt x58 4))) (gt x58 6))))) + (gt y7 x57))) + (gt x19 x57)))) (by kernel_rfl) (by kernel_rfl) ?_
            refine GmT.done (by kernel_rfl) ?_
            refine Qn.then ?_
            refine CodT.seq ?_
            refine CodT.drawI (n := 25) [] (by kernel_rfl) (by kernel_rfl) hI ?_
            intro w hI
            refine GmT.p' 0 137 (.int .u32 (gt x58 0)) (by kernel_rfl) (by kernel_rfl) ?_
            refine GmT.p' 2 139 (.int .u32 (gt x58 0)) (by kernel_rfl) (by kernel_rfl) ?_
            refine GmT.p' 5 142 (.int .u32 (gt x58 0)) (by kernel_rfl) (by kernel_rfl) ?_
            refine GmT.p' 8 145 (.int .u32 (gt x58 0)) (by kernel_rfl) (by kernel_rfl) ?_
            refine GmT.p' 9 146 (.pointer (some ⟨b54, 1, none⟩)) (by kernel_rfl) (by kernel_rfl) ?_
            refine GmT.p' 12 149 (.int .u32 (gt x58 0)) (by kernel_rfl) (by kernel_rfl) ?_
            refine GmT.p' 13 150 (.pointer (some ⟨b54, 2, none⟩)) (by kernel_rfl) (by kernel_rfl) ?_
            refine GmT.p' 17 154 (.pointer (some ⟨b54, 1, none⟩)) (by kernel_rfl) (by kernel_rfl) ?_
            refine GmT.p' 19 156 (.pointer (some ⟨b54, 2, none⟩)) (by kernel_rfl) (by kernel_rfl) ?_
            refine GmT.r (i := 10) 2 (by kernel_rfl) (by kernel_rfl) (Yl.load (d := 147) (T := 129) (v := .int .u32 (gt x58 1)) (by kernel_rfl) (ldB ty129 (l := cA (Value.int .u32) x58) (o := 1) (v := .int .u32 (gt x58 1)) (ent_refl _) (arr_getC _ _ 1 hl59 (by kernel_rfl)))) hI ?_
            refine GmT.p' 11 148 (.int .u32 (bAnd .u32 (gt x58 0) (gt x58 1))) (by kernel_rfl) (by kernel_rfl) ?_
            refine GmT.r (i := 14) 2 (by kernel_rfl) (by kernel_rfl) (Yl.load (d := 151) (T := 129) (v := .int .u32 (gt x58 2)) (by kernel_rfl) (ldB ty129 (l := cA (Value.int .u32) x58) (o := 2) (v := .int .u32 (gt x58 2)) (ent_refl _) (arr_getC _ _ 2 hl59 (by kernel_rfl)))) hI ?_
            refine GmT.p' 15 152 (.int .u32 (bAnd .u32 (gt x58 0) (gt x58 2))) (by kernel_rfl) (by kernel_rfl) ?_
            refine GmT.p' 16 153 (.int .u32 (bXor .u32 (bAnd .u32 (gt x58 0) (gt x58 1)) (bAnd .u32 (gt x58 0) (gt x58 2)))) (by kernel_rfl) (by kernel_rfl) ?_
            refine GmT.r (i := 18) 2 (by kernel_rfl) (by kernel_rfl) (Yl.load (d := 155) (T := 129) (v := .int .u32 (gt x58 1)) (by kernel_rfl) (ldB ty129 (l := cA (Value.int .u32) x58) (o := 1) (v := .int .u32 (gt x58 1)) (ent_refl _) (arr_getC _ _ 1 hl59 (by kernel_rfl)))) hI ?_
            refine GmT.r (i := 20) 2 (by kernel_rfl) (by kernel_rfl) (Yl.load (d := 157) (T := 129) (v := .int .u32 (gt x58 2)) (by kernel_rfl) (ldB ty129 (l := cA (Value.int .u32) x58) (o := 2) (v := .int .u32 (gt x58 2)) (ent_refl _) (arr_getC _ _ 2 hl59 (by kernel_rfl)))) hI ?_
            refine GmT.p' 21 158 (.int .u32 (bAnd .u32 (gt x58 1) (gt x58 2))) (by kernel_rfl) (by kernel_rfl) ?_
            refine GmT.p' 22 159 (.int .u32 (bXor .u32 (bXor .u32 (bAnd .u32 (gt x58 0) (gt x58 1)) (bAnd .u32 (gt x58 0) (gt x58 2))) (bAnd .u32 (gt x58 1) (gt x58 2)))) (by kernel_rfl) (by kernel_rfl) ?_
            obtain ⟨y70, hc69, h2⟩ := bindS h2
            try dsimp only at h2
            refine GmT.o (i := 1) (by kernel_rfl) (Does.call (d := some 138) (n := 115) (vs := [.int .u32 (gt x58 0), .int .i64 2]) (by kernel_rfl) en115 (c115 w0 w _ _ hI (gt x58 0) 2 _ hc69) ?_)
            rintro e w ⟨rfl, hI⟩
            refine ⟨_, rfl, ?_⟩
            refine ⟨fun _ _ => hI, ?_⟩
            obtain ⟨y72, hc71, h2⟩ := bindS h2
            try dsimp only at h2
            refine GmT.o (i := 3) (by kernel_rfl) (Does.call (d := some 140) (n := 115) (vs := [.int .u32 (gt x58 0), .int .i64 13]) (by kernel_rfl) en115 (c115 w0 w _ _ hI (gt x58 0) 13 _ hc71) ?_)
            rintro e w ⟨rfl, hI⟩
            refine ⟨_, rfl, ?_⟩
            refine ⟨fun _ _ => hI, ?_⟩
            refine GmT.p' 4 141 (.int .u32 (bXor .u32 y70 y72)) (by kernel_rfl) (by kernel_rfl) ?_
            obtain ⟨y74, hc73, h2⟩ := bindS h2
            try dsimp only at h2
            refine GmT.o (i := 6) (by kernel_rfl) (Does.call (d := some 143) (n := 115) (vs := [.int .u32 (gt x58 0), .int .i64 22]) (by kernel_rfl) en115 (c115 w0 w _ _ hI (gt x58 0) 22 _ hc73) ?_)
            rintro e w ⟨rfl, hI⟩
            refine ⟨_, rfl, ?_⟩
            refine ⟨fun _ _ => hI, ?_⟩
            refine GmT.p' 7 144 (.int .u32 (bXor .u32 (bXor .u32 y70 y72) y74)) (by kernel_rfl) (by kernel_rfl) ?_
            refine GmT.p' 23 160 (.int .u32 (wu32 ((bXor .u32 (bXor .u32 y70 y72) y74) + (bXor .u32 (bXor .u32 (bAnd .u32 (gt x58 0) (gt x58 1)) (bAnd .u32 (gt x58 0) (gt x58 2))) (bAnd .u32 (gt x58 1) (gt x58 2)))))) (by kernel_rfl) (by kernel_rfl) ?_
            refine GmT.p' 24 18 (.int .u32 (wu32 ((bXor .u32 (bXor .u32 y70 y72) y74) + (bXor .u32 (bXor .u32 (bAnd .u32 (gt x58 0) (gt x58 1)) (bAnd .u32 (gt x58 0) (gt x58 2))) (bAnd .u32 (gt x58 1) (gt x58 2)))))) (by kernel_rfl) (by kernel_rfl) ?_
            refine GmT.done (by kernel_rfl) ?_
            refine Qn.then ?_
            refine CodT.regionL [0, 1, 2, 3, 4, 5, 6, 7, 8, 9, 10, 11, 12, 13, 14, 15, 16, 17, 18, 19, 20] (by kernel_rfl) ?_
            refine OpsT.pures (r := [4, 5, 6, 7, 8, 9, 10, 11, 12, 13, 14, 15, 16, 17, 18, 19, 20]) [0, 1, 2, 3] [2, 3, 4, 5, 6, 7, 12, 13, 17, 163, 164] (S' := [(2, .pointer (some ⟨b1, 0, none⟩)), (3, .pointer (some ⟨b5, 0, none⟩)), (4, .pointer (some ⟨b9, 0, none⟩)), (5, .string y11), (6, .int .i64 x14), (7, .pointer (some ⟨b18, 0, none⟩)), (12, .pointer (some ⟨b54, 0, none⟩)), (13, .int .i64 x57), (17, .int .u32 (wu32 ((wu32 ((wu32 ((wu32 ((gt x58 7) + (bXor .u32 (bXor .u32 y64 y66) y68))) + (bXor .u32 (bAnd .u32 (gt x58 4) (gt x58 5)) (bAnd .u32 (wu32 (4294967295 - (gt x58 4))) (gt x58 6))))) + (gt y7 x57))) + (gt x19 x57)))), (163, .int .u32 (wu32 ((wu32 ((wu32 ((wu32 ((wu32 ((gt x58 7) + (bXor .u32 (bXor .u32 y64 y66) y68))) + (bXor .u32 (bAnd .u32 (gt x58 4) (gt x58 5)) (bAnd .u32 (wu32 (4294967295 - (gt x58 4))) (gt x58 6))))) + (gt y7 x57))) + (gt x19 x57))) + (wu32 ((bXor .u32 (bXor .u32 y70 y72) y74) + (bXor .u32 (bXor .u32 (bAnd .u32 (gt x58 0) (gt x58 1)) (bAnd .u32 (gt x58 0) (gt x58 2))) (bAnd .u32 (gt x58 1) (gt x58 2)))))))), (164, .pointer (some ⟨b54, 0, none⟩))]) (by kernel_rfl) ?_
            refine OpsT.cons (Does.yi (Yl.load (d := 165) (T := 129) (v := .int .u32 (gt x58 0)) (by kernel_rfl) (ldB ty129 (l := cA (Value.int .u32) x58) (o := 0) (v := .int .u32 (gt x58 0)) (ent_refl _) (arr_getC _ _ 0 hl59 (by kernel_rfl)))) hI ?_)
            refine OpsT.pures (r := [6, 7, 8, 9, 10, 11, 12, 13, 14, 15, 16, 17, 18, 19, 20]) [5] [2, 3, 4, 5, 6, 7, 12, 13, 17, 163, 165, 166] (S' := [(2, .pointer (some ⟨b1, 0, none⟩)), (3, .pointer (some ⟨b5, 0, none⟩)), (4, .pointer (some ⟨b9, 0, none⟩)), (5, .string y11), (6, .int .i64 x14), (7, .pointer (some ⟨b18, 0, none⟩)), (12, .pointer (some ⟨b54, 0, none⟩)), (13, .int .i64 x57), (17, .int .u32 (wu32 ((wu32 ((wu32 ((wu32 ((gt x58 7) + (bXor .u32 (bXor .u32 y64 y66) y68))) + (bXor .u32 (bAnd .u32 (gt x58 4) (gt x58 5)) (bAnd .u32 (wu32 (4294967295 - (gt x58 4))) (gt x58 6))))) + (gt y7 x57))) + (gt x19 x57)))), (163, .int .u32 (wu32 ((wu32 ((wu32 ((wu32 ((wu32 ((gt x58 7) + (bXor .u32 (bXor .u32 y64 y66) y68))) + (bXor .u32 (bAnd .u32 (gt x58 4) (gt x58 5)) (bAnd .u32 (wu32 (4294967295 - (gt x58 4))) (gt x58 6))))) + (gt y7 x57))) + (gt x19 x57))) + (wu32 ((bXor .u32 (bXor .u32 y70 y72) y74) + (bXor .u32 (bXor .u32 (bAnd .u32 (gt x58 0) (gt x58 1)) (bAnd .u32 (gt x58 0) (gt x58 2))) (bAnd .u32 (gt x58 1) (gt x58 2)))))))), (165, .int .u32 (gt x58 0)), (166, .pointer (some ⟨b54, 1, none⟩))]) (by kernel_rfl) ?_
            refine OpsT.cons (Does.yi (Yl.load (d := 167) (T := 129) (v := .int .u32 (gt x58 1)) (by kernel_rfl) (ldB ty129 (l := cA (Value.int .u32) x58) (o := 1) (v := .int .u32 (gt x58 1)) (ent_refl _) (arr_getC _ _ 1 hl59 (by kernel_rfl)))) hI ?_)
            refine OpsT.pures (r := [8, 9, 10, 11, 12, 13, 14, 15, 16, 17, 18, 19, 20]) [7] [2, 3, 4, 5, 6, 7, 12, 13, 17, 163, 165, 167, 168] (S' := [(2, .pointer (some ⟨b1, 0, none⟩)), (3, .pointer (some ⟨b5, 0, none⟩)), (4, .pointer (some ⟨b9, 0, none⟩)), (5, .string y11), (6, .int .i64 x14), (7, .pointer (some ⟨b18, 0, none⟩)), (12, .pointer (some ⟨b54, 0, none⟩)), (13, .int .i64 x57), (17, .int .u32 (wu32 ((wu32 ((wu32 ((wu32 ((gt x58 7) + (bXor .u32 (bXor .u32 y64 y66) y68))) + (bXor .u32 (bAnd .u32 (gt x58 4) (gt x58 5)) (bAnd .u32 (wu32 (4294967295 - (gt x58 4))) (gt x58 6))))) + (gt y7 x57))) + (gt x19 x57)))), (163, .int .u32 (wu32 ((wu32 ((wu32 ((wu32 ((wu32 ((gt x58 7) + (bXor .u32 (bXor .u32 y64 y66) y68))) + (bXor .u32 (bAnd .u32 (gt x58 4) (gt x58 5)) (bAnd .u32 (wu32 (4294967295 - (gt x58 4))) (gt x58 6))))) + (gt y7 x57))) + (gt x19 x57))) + (wu32 ((bXor .u32 (bXor .u32 y70 y72) y74) + (bXor .u32 (bXor .u32 (bAnd .u32 (gt x58 0) (gt x58 1)) (bAnd .u32 (gt x58 0) (gt x58 2))) (bAnd .u32 (gt x58 1) (gt x58 2)))))))), (165, .int .u32 (gt x58 0)), (167, .int .u32 (gt x58 1)), (168, .pointer (some ⟨b54, 2, none⟩))]) (by kernel_rfl) ?_
            refine OpsT.cons (Does.yi (Yl.load (d := 169) (T := 129) (v := .int .u32 (gt x58 2)) (by kernel_rfl) (ldB ty129 (l := cA (Value.int .u32) x58) (o := 2) (v := .int .u32 (gt x58 2)) (ent_refl _) (arr_getC _ _ 2 hl59 (by kernel_rfl)))) hI ?_)
            refine OpsT.pures (r := [10, 11, 12, 13, 14, 15, 16, 17, 18, 19, 20]) [9] [2, 3, 4, 5, 6, 7, 12, 13, 17, 163, 165, 167, 169, 170] (S' := [(2, .pointer (some ⟨b1, 0, none⟩)), (3, .pointer (some ⟨b5, 0, none⟩)), (4, .pointer (some ⟨b9, 0, none⟩)), (5, .string y11), (6, .int .i64 x14), (7, .pointer (some ⟨b18, 0, none⟩)), (12, .pointer (some ⟨b54, 0, none⟩)), (13, .int .i64 x57), (17, .int .u32 (wu32 ((wu32 ((wu32 ((wu32 ((gt x58 7) + (bXor .u32 (bXor .u32 y64 y66) y68))) + (bXor .u32 (bAnd .u32 (gt x58 4) (gt x58 5)) (bAnd .u32 (wu32 (4294967295 - (gt x58 4))) (gt x58 6))))) + (gt y7 x57))) + (gt x19 x57)))), (163, .int .u32 (wu32 ((wu32 ((wu32 ((wu32 ((wu32 ((gt x58 7) + (bXor .u32 (bXor .u32 y64 y66) y68))) + (bXor .u32 (bAnd .u32 (gt x58 4) (gt x58 5)) (bAnd .u32 (wu32 (4294967295 - (gt x58 4))) (gt x58 6))))) + (gt y7 x57))) + (gt x19 x57))) + (wu32 ((bXor .u32 (bXor .u32 y70 y72) y74) + (bXor .u32 (bXor .u32 (bAnd .u32 (gt x58 0) (gt x58 1)) (bAnd .u32 (gt x58 0) (gt x58 2))) (bAnd .u32 (gt x58 1) (gt x58 2)))))))), (165, .int .u32 (gt x58 0)), (167, .int .u32 (gt x58 1)), (169, .int .u32 (gt x58 2)), (170, .pointer (some ⟨b54, 3, none⟩))]) (by kernel_rfl) ?_
            refine OpsT.cons (Does.yi (Yl.load (d := 171) (T := 129) (v := .int .u32 (gt x58 3)) (by kernel_rfl) (ldB ty129 (l := cA (Value.int .u32) x58) (o := 3) (v := .int .u32 (gt x58 3)) (ent_refl _) (arr_getC _ _ 3 hl59 (by kernel_rfl)))) hI ?_)
            refine OpsT.pures (r := [14, 15, 16, 17, 18, 19, 20]) [11, 12, 13] [2, 3, 4, 5, 6, 7, 12, 13, 163, 165, 167, 169, 173, 174] (S' := [(2, .pointer (some ⟨b1, 0, none⟩)), (3, .pointer (some ⟨b5, 0, none⟩)), (4, .pointer (some ⟨b9, 0, none⟩)), (5, .string y11), (6, .int .i64 x14), (7, .pointer (some ⟨b18, 0, none⟩)), (12, .pointer (some ⟨b54, 0, none⟩)), (13, .int .i64 x57), (163, .int .u32 (wu32 ((wu32 ((wu32 ((wu32 ((wu32 ((gt x58 7) + (bXor .u32 (bXor .u32 y64 y66) y68))) + (bXor .u32 (bAnd .u32 (gt x58 4) (gt x58 5)) (bAnd .u32 (wu32 (4294967295 - (gt x58 4))) (gt x58 6))))) + (gt y7 x57))) + (gt x19 x57))) + (wu32 ((bXor .u32 (bXor .u32 y70 y72) y74) + (bXor .u32 (bXor .u32 (bAnd .u32 (gt x58 0) (gt x58 1)) (bAnd .u32 (gt x58 0) (gt x58 2))) (bAnd .u32 (gt x58 1) (gt x58 2)))))))), (165, .int .u32 (gt x58 0)), (167, .int .u32 (gt x58 1)), (169, .int .u32 (gt x58 2)), (173, .int .u32 (wu32 ((gt x58 3) + (wu32 ((wu32 ((wu32 ((wu32 ((gt x58 7) + (bXor .u32 (bXor .u32 y64 y66) y68))) + (bXor .u32 (bAnd .u32 (gt x58 4) (gt x58 5)) (bAnd .u32 (wu32 (4294967295 - (gt x58 4))) (gt x58 6))))) + (gt y7 x57))) + (gt x19 x57)))))), (174, .pointer (some ⟨b54, 4, none⟩))]) (by kernel_rfl) ?_
            refine OpsT.cons (Does.yi (Yl.load (d := 175) (T := 129) (v := .int .u32 (gt x58 4)) (by kernel_rfl) (ldB ty129 (l := cA (Value.int .u32) x58) (o := 4) (v := .int .u32 (gt x58 4)) (ent_refl _) (arr_getC _ _ 4 hl59 (by kernel_rfl)))) hI ?_)
            refine OpsT.pures (r := [16, 17, 18, 19, 20]) [15] [2, 3, 4, 5, 6, 7, 12, 13, 163, 165, 167, 169, 173, 175, 176] (S' := [(2, .pointer (some ⟨b1, 0, none⟩)), (3, .pointer (some ⟨b5, 0, none⟩)), (4, .pointer (some ⟨b9, 0, none⟩)), (5, .string y11), (6, .int .i64 x14), (7, .pointer (some ⟨b18, 0, none⟩)), (12, .pointer (some ⟨b54, 0, none⟩)), (13, .int .i64 x57), (163, .int .u32 (wu32 ((wu32 ((wu32 ((wu32 ((wu32 ((gt x58 7) + (bXor .u32 (bXor .u32 y64 y66) y68))) + (bXor .u32 (bAnd .u32 (gt x58 4) (gt x58 5)) (bAnd .u32 (wu32 (4294967295 - (gt x58 4))) (gt x58 6))))) + (gt y7 x57))) + (gt x19 x57))) + (wu32 ((bXor .u32 (bXor .u32 y70 y72) y74) + (bXor .u32 (bXor .u32 (bAnd .u32 (gt x58 0) (gt x58 1)) (bAnd .u32 (gt x58 0) (gt x58 2))) (bAnd .u32 (gt x58 1) (gt x58 2)))))))), (165, .int .u32 (gt x58 0)), (167, .int .u32 (gt x58 1)), (169, .int .u32 (gt x58 2)), (173, .int .u32 (wu32 ((gt x58 3) + (wu32 ((wu32 ((wu32 ((wu32 ((gt x58 7) + (bXor .u32 (bXor .u32 y64 y66) y68))) + (bXor .u32 (bAnd .u32 (gt x58 4) (gt x58 5)) (bAnd .u32 (wu32 (4294967295 - (gt x58 4))) (gt x58 6))))) + (gt y7 x57))) + (gt x19 x57)))))), (175, .int .u32 (gt x58 4)), (176, .pointer (some ⟨b54, 5, none⟩))]) (by kernel_rfl) ?_
            refine OpsT.cons (Does.yi (Yl.load (d := 177) (T := 129) (v := .int .u32 (gt x58 5)) (by kernel_rfl) (ldB ty129 (l := cA (Value.int .u32) x58) (o := 5) (v := .int .u32 (gt x58 5)) (ent_refl _) (arr_getC _ _ 5 hl59 (by kernel_rfl)))) hI ?_)
            refine OpsT.pures (r := [18, 19, 20]) [17] [2, 3, 4, 5, 6, 7, 12, 13, 163, 165, 167, 169, 173, 175, 177, 178] (S' := [(2, .pointer (some ⟨b1, 0, none⟩)), (3, .pointer (some ⟨b5, 0, none⟩)), (4, .pointer (some ⟨b9, 0, none⟩)), (5, .string y11), (6, .int .i64 x14), (7, .pointer (some ⟨b18, 0, none⟩)), (12, .pointer (some ⟨b54, 0, none⟩)), (13, .int .i64 x57), (163, .int .u32 (wu32 ((wu32 ((wu32 ((wu32 ((wu32 ((gt x58 7) + (bXor .u32 (bXor .u32 y64 y66) y68))) + (bXor .u32 (bAnd .u32 (gt x58 4) (gt x58 5)) (bAnd .u32 (wu32 (4294967295 - (gt x58 4))) (gt x58 6))))) + (gt y7 x57))) + (gt x19 x57))) + (wu32 ((bXor .u32 (bXor .u32 y70 y72) y74) + (bXor .u32 (bXor .u32 (bAnd .u32 (gt x58 0) (gt x58 1)) (bAnd .u32 (gt x58 0) (gt x58 2))) (bAnd .u32 (gt x58 1) (gt x58 2)))))))), (165, .int .u32 (gt x58 0)), (167, .int .u32 (gt x58 1)), (169, .int .u32 (gt x58 2)), (173, .int .u32 (wu32 ((gt x58 3) + (wu32 ((wu32 ((wu32 ((wu32 ((gt x58 7) + (bXor .u32 (bXor .u32 y64 y66) y68))) + (bXor .u32 (bAnd .u32 (gt x58 4) (gt x58 5)) (bAnd .u32 (wu32 (4294967295 - (gt x58 4))) (gt x58 6))))) + (gt y7 x57))) + (gt x19 x57)))))), (175, .int .u32 (gt x58 4)), (177, .int .u32 (gt x58 5)), (178, .pointer (some ⟨b54, 6, none⟩))]) (by kernel_rfl) ?_
            refine OpsT.cons (Does.yi (Yl.load (d := 179) (T := 129) (v := .int .u32 (gt x58 6)) (by kernel_rfl) (ldB ty129 (l := cA (Value.int .u32) x58) (o := 6) (v := .int .u32 (gt x58 6)) (ent_refl _) (arr_getC _ _ 6 hl59 (by kernel_rfl)))) hI ?_)
            refine OpsT.pures (r := [20]) [19] [2, 3, 4, 5, 6, 7, 12, 13, 180] (S' := [(2, .pointer (some ⟨b1, 0, none⟩)), (3, .pointer (some ⟨b5, 0, none⟩)), (4, .pointer (some ⟨b9, 0, none⟩)), (5, .string y11), (6, .int .i64 x14), (7, .pointer (some ⟨b18, 0, none⟩)), (12, .pointer (some ⟨b54, 0, none⟩)), (13, .int .i64 x57), (180, .agg (cA (Value.int .u32) ([wu32 ((wu32 ((wu32 ((wu32 ((wu32 ((gt x58 7) + (bXor .u32 (bXor .u32 y64 y66) y68))) + (bXor .u32 (bAnd .u32 (gt x58 4) (gt x58 5)) (bAnd .u32 (wu32 (4294967295 - (gt x58 4))) (gt x58 6))))) + (gt y7 x57))) + (gt x19 x57))) + (wu32 ((bXor .u32 (bXor .u32 y70 y72) y74) + (bXor .u32 (bXor .u32 (bAnd .u32 (gt x58 0) (gt x58 1)) (bAnd .u32 (gt x58 0) (gt x58 2))) (bAnd .u32 (gt x58 1) (gt x58 2)))))), gt x58 0, gt x58 1, gt x58 2, wu32 ((gt x58 3) + (wu32 ((wu32 ((wu32 ((wu32 ((gt x58 7) + (bXor .u32 (bXor .u32 y64 y66) y68))) + (bXor .u32 (bAnd .u32 (gt x58 4) (gt x58 5)) (bAnd .u32 (wu32 (4294967295 - (gt x58 4))) (gt x58 6))))) + (gt y7 x57))) + (gt x19 x57)))), gt x58 4, gt x58 5, gt x58 6] : List Int)).toArray)]) (by kernel_rfl) ?_
            refine OpsT.cons (Does.storeAll (T := 130) (b := b54) (n := 8) (xs := x58) (ys := ([wu32 ((wu32 ((wu32 ((wu32 ((wu32 ((gt x58 7) + (bXor .u32 (bXor .u32 y64 y66) y68))) + (bXor .u32 (bAnd .u32 (gt x58 4) (gt x58 5)) (bAnd .u32 (wu32 (4294967295 - (gt x58 4))) (gt x58 6))))) + (gt y7 x57))) + (gt x19 x57))) + (wu32 ((bXor .u32 (bXor .u32 y70 y72) y74) + (bXor .u32 (bXor .u32 (bAnd .u32 (gt x58 0) (gt x58 1)) (bAnd .u32 (gt x58 0) (gt x58 2))) (bAnd .u32 (gt x58 1) (gt x58 2)))))), gt x58 0, gt x58 1, gt x58 2, wu32 ((gt x58 3) + (wu32 ((wu32 ((wu32 ((wu32 ((gt x58 7) + (bXor .u32 (bXor .u32 y64 y66) y68))) + (bXor .u32 (bAnd .u32 (gt x58 4) (gt x58 5)) (bAnd .u32 (wu32 (4294967295 - (gt x58 4))) (gt x58 6))))) + (gt y7 x57))) + (gt x19 x57)))), gt x58 4, gt x58 5, gt x58 6] : List Int)) (by kernel_rfl) ty130 hI (fun _ => rfl) hl59 (by kernel_rfl) ?_)
            intro w hI
            refine OpsT.done ?_
            refine Qn.block_normal ?_
            refine Qn.then ?_
            refine CodT.regionL [0, 1, 2] (by kernel_rfl) ?_
            refine OpsT.pures (r := []) [0, 1, 2] [2, 3, 4, 5, 6, 7, 12, 13] (S' := [(2, .pointer (some ⟨b1, 0, none⟩)), (3, .pointer (some ⟨b5, 0, none⟩)), (4, .pointer (some ⟨b9, 0, none⟩)), (5, .string y11), (6, .int .i64 x14), (7, .pointer (some ⟨b18, 0, none⟩)), (12, .pointer (some ⟨b54, 0, none⟩)), (13, .int .i64 (wi64 (x57 + 1)))]) (by kernel_rfl) ?_
            refine OpsT.done ?_
            exact Qn.thenJ fun a ha => ⟨k, Nat.lt_succ_self k, wi64 (x57 + 1), ([wu32 ((wu32 ((wu32 ((wu32 ((wu32 ((gt x58 7) + (bXor .u32 (bXor .u32 y64 y66) y68))) + (bXor .u32 (bAnd .u32 (gt x58 4) (gt x58 5)) (bAnd .u32 (wu32 (4294967295 - (gt x58 4))) (gt x58 6))))) + (gt y7 x57))) + (gt x19 x57))) + (wu32 ((bXor .u32 (bXor .u32 y70 y72) y74) + (bXor .u32 (bXor .u32 (bAnd .u32 (gt x58 0) (gt x58 1)) (bAnd .u32 (gt x58 0) (gt x58 2))) (bAnd .u32 (gt x58 1) (gt x58 2)))))), gt x58 0, gt x58 1, gt x58 2, wu32 ((gt x58 3) + (wu32 ((wu32 ((wu32 ((wu32 ((gt x58 7) + (bXor .u32 (bXor .u32 y64 y66) y68))) + (bXor .u32 (bAnd .u32 (gt x58 4) (gt x58 5)) (bAnd .u32 (wu32 (4294967295 - (gt x58 4))) (gt x58 6))))) + (gt y7 x57))) + (gt x19 x57)))), gt x58 4, gt x58 5, gt x58 6] : List Int), h2, ha.keep [2, 3, 4, 5, 6, 7, 12, 13] (by kernel_rfl), hI, (by kernel_rfl)⟩
          · rw [if_neg hb60] at h2
            refine CodT.no' (b := decide (x57 < 64)) (by kernel_rfl) (by simpa using hb60) ?_
            refine CodT.exit ?_
            refine Qn.exit_then ?_
            refine Qn.exit_then ?_
            refine Qn.block ?_
            have hI := hI.mono (pick2 _ _ _)
            have hI := hI.drop
            have e := someS h2
            subst e
            exact Qn.thenJ fun a ha => ⟨x58, rfl, ha.keep [2, 3, 4, 5, 6, 12] (by kernel_rfl), hI, hl59⟩
        ·
          rintro a w ⟨x55, rfl, ha, hI, hl56⟩
          try dsimp only at h1
          refine Qn.of ?_ ha
          refine Qn.then ?_
          refine CodT.seq ?_
          refine CodT.regionL [0] (by kernel_rfl) ?_
          refine OpsT.pures (r := []) [0] [2, 3, 4, 5, 6, 12, 19] (S' := [(2, .pointer (some ⟨b1, 0, none⟩)), (3, .pointer (some ⟨b5, 0, none⟩)), (4, .pointer (some ⟨b9, 0, none⟩)), (5, .string y11), (6, .int .i64 x14), (12, .pointer (some ⟨b54, 0, none⟩)), (19, .int .i64 0)]) (by kernel_rfl) ?_
          refine OpsT.done ?_
          refine Qn.then ?_
          obtain ⟨r2, h2, h1⟩ := bindS h1
          refine CodT.meet1 (fun a w => ∃ (x75 : (List Int)), x75 = r2 ∧ Fr 216 [(2, .pointer (some ⟨b1, 0, none⟩)), (3, .pointer (some ⟨b5, 0, none⟩)), (4, .pointer (some ⟨b9, 0, none⟩)), (5, .string y11), (6, .int .i64 x14)] a ∧ Inv w0 Z w (star (pt b9 (.cells (cA (Value.int .u32) y7).toArray 131 (0, 0))) (star (pt b5 (.cells (cA (Value.int .u32) x75).toArray 130 (0, 0))) (star (pt b1 (.cells (cA (Value.int .u8) (List.replicate 32 (0 : Int))).toArray 55 (0, 0))) A))) ∧ x75.length = 8) ?_ ?_
          ·
            refine CodT.block ?_
            refine (fun a ha => wp_loopN (fun k a w => ∃ (x77 : Int) (x78 : (List Int)), ref02_Of.l4 x55 k x77 x78 = some r2 ∧ Fr 216 [(2, .pointer (some ⟨b1, 0, none⟩)), (3, .pointer (some ⟨b5, 0, none⟩)), (4, .pointer (some ⟨b9, 0, none⟩)), (5, .string y11), (6, .int .i64 x14), (12, .pointer (some ⟨b54, 0, none⟩)), (19, .int .i64 x77)] a ∧ Inv w0 Z w (star (pt b54 (.cells (cA (Value.int .u32) x55).toArray 130 (0, 0))) (star (pt b9 (.cells (cA (Value.int .u32) y7).toArray 131 (0, 0))) (star (pt b5 (.cells (cA (Value.int .u32) x78).toArray 130 (0, 0))) (star (pt b1 (.cells (cA (Value.int .u8) (List.replicate 32 (0 : Int))).toArray 55 (0, 0))) A)))) ∧ x78.length = 8) ?_ FU a w ⟨0, x15, h2, ha.keep [2, 3, 4, 5, 6, 12, 19] (by kernel_rfl), hI, hl16⟩)
            clear h2 hI
            rintro k a w ⟨x77, x78, h2, ha, hI, hl79⟩
            rcases k with _ | k
            · cases h2
            simp only [ref02_Of.l4] at h2
            refine CodT.of ?_ ha
            refine CodT.seq ?_
            refine CodT.seq ?_
            refine CodT.regionL [0, 1] (by kernel_rfl) ?_
            refine OpsT.pures (r := []) [0, 1] [2, 3, 4, 5, 6, 12, 19, 182] (S' := [(2, .pointer (some ⟨b1, 0, none⟩)), (3, .pointer (some ⟨b5, 0, none⟩)), (4, .pointer (some ⟨b9, 0, none⟩)), (5, .string y11), (6, .int .i64 x14), (12, .pointer (some ⟨b54, 0, none⟩)), (19, .int .i64 x77), (182, .bool (decide (x77 < 8)))]) (by kernel_rfl) ?_
            refine OpsT.done ?_
            refine Qn.then ?_
            by_cases hb80 : (decide (x77 < 8)) = true
            · rw [if_pos hb80] at h2
              refine CodT.yes' (b := decide (x77 < 8)) (by kernel_rfl) hb80 ?_
              refine CodT.skip ?_
              refine Qn.then ?_
              refine CodT.seq ?_
              refine CodT.block ?_
              refine CodT.drawI (n := 10) [9] (by kernel_rfl) (by kernel_rfl) hI ?_
              intro w hI
              refine GmT.p' 0 185 (.int .i64 x77) (by kernel_rfl) (by kernel_rfl) ?_
              refine GmT.p' 1 186 (.int .i64 x77) (by kernel_rfl) (by kernel_rfl) ?_
              refine GmT.p' 4 189 (.int .i64 x77) (by kernel_rfl) (by kernel_rfl) ?_
              obtain ⟨hg81, h2⟩ := guardS h2
              refine GmT.r (i := 2) 2 (by kernel_rfl) (by kernel_rfl) (Yl.indexArr (d := 187) (T := 130) (k := .i64) (j := x77) (g := b5) (o := 0) (by kernel_rfl) Go.Proofs.Try.underlying130 ty129 hg81.1 hg81.2) hI ?_
              refine GmT.r (i := 3) 2 (by kernel_rfl) (by kernel_rfl) (Yl.load (d := 188) (T := 129) (v := .int .u32 (gt x78 x77)) (by kernel_rfl) (ldB ty129 (l := cA (Value.int .u32) x78) (o := 0 + x77.toNat * 1) (v := .int .u32 (gt x78 x77)) (pick3 _ _ _ _) (arr_get _ _ hg81.1 (by have := And.intro hl79 hg81.2; omega)))) hI ?_
              obtain ⟨hg82, h2⟩ := guardS h2
              refine GmT.r (i := 5) 2 (by kernel_rfl) (by kernel_rfl) (Yl.indexArr (d := 190) (T := 130) (k := .i64) (j := x77) (g := b54) (o := 0) (by kernel_rfl) Go.Proofs.Try.underlying130 ty129 hg82.1 hg82.2) hI ?_
              refine GmT.r (i := 6) 2 (by kernel_rfl) (by kernel_rfl) (Yl.load (d := 191) (T := 129) (v := .int .u32 (gt x55 x77)) (by kernel_rfl) (ldB ty129 (l := cA (Value.int .u32) x55) (o := 0 + x77.toNat * 1) (v := .int .u32 (gt x55 x77)) (ent_refl _) (arr_get _ _ hg82.1 (by have := And.intro hl56 hg82.2; omega)))) hI ?_
              refine GmT.p' 7 192 (.int .u32 (wu32 ((gt x78 x77) + (gt x55 x77)))) (by kernel_rfl) (by kernel_rfl) ?_
              obtain ⟨hg83, h2⟩ := guardS h2
              refine GmT.r (i := 8) 2 (by kernel_rfl) (by kernel_rfl) (Yl.indexArr (d := 193) (T := 130) (k := .i64) (j := x77) (g := b5) (o := 0) (by kernel_rfl) Go.Proofs.Try.underlying130 ty129 hg83.1 hg83.2) hI ?_
              have hI := hI.mono (pick3 _ _ _ _)
              refine GmT.o (i := 9) (by kernel_rfl) (Does.storeArr (e := (Value.int .u32)) (xs := x78) (u := wu32 ((gt x78 x77) + (gt x55 x77))) (T := 129) (b := b5) (j := x77) (by kernel_rfl) ty129 hI (by kernel_rfl) (by kernel_rfl) hg83.1 (by have := And.intro hl79 hg83.2; omega) ?_)
              intro w hI
              refine ⟨fun h => absurd h (by decide), ?_⟩
              refine GmT.done (by kernel_rfl) ?_
              refine Qn.block_normal ?_
              refine Qn.then ?_
              refine CodT.regionL [0, 1, 2] (by kernel_rfl) ?_
              refine OpsT.pures (r := []) [0, 1, 2] [2, 3, 4, 5, 6, 12, 19] (S' := [(2, .pointer (some ⟨b1, 0, none⟩)), (3, .pointer (some ⟨b5, 0, none⟩)), (4, .pointer (some ⟨b9, 0, none⟩)), (5, .string y11), (6, .int .i64 x14), (12, .pointer (some ⟨b54, 0, none⟩)), (19, .int .i64 (wi64 (x77 + 1)))]) (by kernel_rfl) ?_
              refine OpsT.done ?_
              have hI := hI.mono (pick4 _ _ _ _ _)
              have hI := hI.mono (pick2 _ _ _)
              have hI := hI.mono (pick4 _ _ _ _ _)
              have hI := hI.mono (pick4 _ _ _ _ _)
              exact Qn.thenJ fun a ha => ⟨k, Nat.lt_succ_self k, wi64 (x77 + 1), st x78 x77 (wu32 ((gt x78 x77) + (gt x55 x77))), h2, ha.keep [2, 3, 4, 5, 6, 12, 19] (by kernel_rfl), hI, ((st_length _ _ _).trans hl79)⟩
            · rw [if_neg hb80] at h2
              refine CodT.no' (b := decide (x77 < 8)) (by kernel_rfl) (by simpa using hb80) ?_
              refine CodT.exit ?_
              refine Qn.exit_then ?_
              refine Qn.exit_then ?_
              refine Qn.block ?_
              have hI := hI.drop
              have e := someS h2
              subst e
              exact Qn.thenJ fun a ha => ⟨x78, rfl, ha.keep [2, 3, 4, 5, 6] (by kernel_rfl), hI, hl79⟩
          ·
            rintro a w ⟨x75, rfl, ha, hI, hl76⟩
            try dsimp only at h1
            refine Qn.of ?_ ha
            refine Qn.block_normal ?_
            refine Qn.then ?_
            refine CodT.regionL [0, 1, 2] (by kernel_rfl) ?_
            refine OpsT.pures (r := []) [0, 1, 2] [2, 3, 4, 5, 6] (S' := [(2, .pointer (some ⟨b1, 0, none⟩)), (3, .pointer (some ⟨b5, 0, none⟩)), (4, .pointer (some ⟨b9, 0, none⟩)), (5, .string y11), (6, .int .i64 (wi64 (x14 + 64)))]) (by kernel_rfl) ?_
            refine OpsT.done ?_
            exact Qn.thenJ fun a ha => ⟨k, Nat.lt_succ_self k, wi64 (x14 + 64), x75, h1, ha.keep [2, 3, 4, 5, 6] (by kernel_rfl), hI, hl76⟩
    · rw [if_neg hb17] at h1
      refine CodT.no' (b := decide (x14 < (y11.size : Int))) (by kernel_rfl) (by simpa using hb17) ?_
      refine CodT.exit ?_
      refine Qn.exit_then ?_
      refine Qn.exit_then ?_
      refine Qn.block ?_
      have hI := hI.drop
      have e := someS h1
      subst e
      exact Qn.thenJ fun a ha => ⟨x15, rfl, ha.keep [2, 3] (by kernel_rfl), hI, hl16⟩
  ·
    rintro a w ⟨x12, rfl, ha, hI, hl13⟩
    try dsimp only at h0
    refine Qn.of ?_ ha
    refine Qn.then ?_
    refine CodT.seq ?_
    refine CodT.regionL [0] (by kernel_rfl) ?_
    refine OpsT.cons (Does.allocL (d := 20) (T := 55) (cA (Value.int .u8) (List.replicate 32 (0 : Int))) (by kernel_rfl) ty55 hI (by kernel_rfl) ?_)
    intro b84 w hI
    refine OpsT.done ?_
    refine Qn.then ?_
    refine CodT.seq ?_
    refine CodT.seq ?_
    refine CodT.regionL [0] (by kernel_rfl) ?_
    refine OpsT.pures (r := []) [0] [2, 3, 20, 21] (S' := [(2, .pointer (some ⟨b1, 0, none⟩)), (3, .pointer (some ⟨b5, 0, none⟩)), (20, .pointer (some ⟨b84, 0, none⟩)), (21, .int .i64 0)]) (by kernel_rfl) ?_
    refine OpsT.done ?_
    refine Qn.then ?_
    obtain ⟨r1, h1, h0⟩ := bindS h0
    refine CodT.meet1 (fun a w => ∃ (x85 : (List Int)), x85 = r1 ∧ Fr 216 [(2, .pointer (some ⟨b1, 0, none⟩)), (20, .pointer (some ⟨b84, 0, none⟩))] a ∧ Inv w0 Z w (star (pt b84 (.cells (cA (Value.int .u8) x85).toArray 55 (0, 0))) (star (pt b1 (.cells (cA (Value.int .u8) (List.replicate 32 (0 : Int))).toArray 55 (0, 0))) A)) ∧ x85.length = 32) ?_ ?_
    ·
      refine CodT.block ?_
      refine (fun a ha => wp_loopN (fun k a w => ∃ (x87 : Int) (x88 : (List Int)), ref02_Of.l5 x12 k x87 x88 = some r1 ∧ Fr 216 [(2, .pointer (some ⟨b1, 0, none⟩)), (3, .pointer (some ⟨b5, 0, none⟩)), (20, .pointer (some ⟨b84, 0, none⟩)), (21, .int .i64 x87)] a ∧ Inv w0 Z w (star (pt b84 (.cells (cA (Value.int .u8) x88).toArray 55 (0, 0))) (star (pt b5 (.cells (cA (Value.int .u32) x12).toArray 130 (0, 0))) (star (pt b1 (.cells (cA (Value.int .u8) (List.replicate 32 (0 : Int))).toArray 55 (0, 0))) A))) ∧ x88.length = 32) ?_ FU a w ⟨0, (List.replicate 32 (0 : Int)), h1, ha.keep [2, 3, 20, 21] (by kernel_rfl), hI, (by kernel_rfl)⟩)
      clear h1 hI
      rintro k a w ⟨x87, x88, h1, ha, hI, hl89⟩
      rcases k with _ | k
      · cases h1
      simp only [ref02_Of.l5] at h1
      refine CodT.of ?_ ha
      refine CodT.seq ?_
      refine CodT.seq ?_
      refine CodT.regionL [0, 1] (by kernel_rfl) ?_
      refine OpsT.pures (r := []) [0, 1] [2, 3, 20, 21, 195] (S' := [(2, .pointer (some ⟨b1, 0, none⟩)), (3, .pointer (some ⟨b5, 0, none⟩)), (20, .pointer (some ⟨b84, 0, none⟩)), (21, .int .i64 x87), (195, .bool (decide (x87 < 32)))]) (by kernel_rfl) ?_
      refine OpsT.done ?_
      refine Qn.then ?_
      by_cases hb90 : (decide (x87 < 32)) = true
      · rw [if_pos hb90] at h1
        refine CodT.yes' (b := decide (x87 < 32)) (by kernel_rfl) hb90 ?_
        refine CodT.skip ?_
        refine Qn.then ?_
        refine CodT.seq ?_
        refine CodT.block ?_
        refine CodT.seq ?_
        refine CodT.regionL [0, 1, 2, 3, 4] (by kernel_rfl) ?_
        refine OpsT.pures (r := [2, 3, 4]) [0, 1] [2, 3, 20, 21, 199] (S' := [(2, .pointer (some ⟨b1, 0, none⟩)), (3, .pointer (some ⟨b5, 0, none⟩)), (20, .pointer (some ⟨b84, 0, none⟩)), (21, .int .i64 x87), (199, .int .i64 (wi64 (x87.tdiv 4)))]) (by kernel_rfl) ?_
        obtain ⟨hg91, h1⟩ := guardS h1
        refine OpsT.cons (Does.yi (Yl.indexArr (d := 200) (T := 130) (k := .i64) (j := wi64 (x87.tdiv 4)) (g := b5) (o := 0) (by kernel_rfl) Go.Proofs.Try.underlying130 ty129 hg91.1 hg91.2) hI ?_)
        refine OpsT.cons (Does.yi (Yl.load (d := 201) (T := 129) (v := .int .u32 (gt x12 (wi64 (x87.tdiv 4)))) (by kernel_rfl) (ldB ty129 (l := cA (Value.int .u32) x12) (o := 0 + (wi64 (x87.tdiv 4)).toNat * 1) (v := .int .u32 (gt x12 (wi64 (x87.tdiv 4)))) (pick2 _ _ _) (arr_get _ _ hg91.1 (by have := And.intro hl13 hg91.2; omega)))) hI ?_)
        refine OpsT.pures (r := []) [4] [2, 3, 20, 21, 22] (S' := [(2, .pointer (some ⟨b1, 0, none⟩)), (3, .pointer (some ⟨b5, 0, none⟩)), (20, .pointer (some ⟨b84, 0, none⟩)), (21, .int .i64 x87), (22, .int .u32 (gt x12 (wi64 (x87.tdiv 4))))]) (by kernel_rfl) ?_
        refine OpsT.done ?_
        refine Qn.then ?_
        refine CodT.seq ?_
        refine CodT.seq ?_
        refine CodT.regionL [0, 1, 2] (by kernel_rfl) ?_
        refine OpsT.pures (r := []) [0, 1, 2] [2, 3, 20, 21, 22, 23] (S' := [(2, .pointer (some ⟨b1, 0, none⟩)), (3, .pointer (some ⟨b5, 0, none⟩)), (20, .pointer (some ⟨b84, 0, none⟩)), (21, .int .i64 x87), (22, .int .u32 (gt x12 (wi64 (x87.tdiv 4)))), (23, .int .i64 (x87.tmod 4))]) (by kernel_rfl) ?_
        refine OpsT.done ?_
        refine Qn.then ?_
        obtain ⟨r2, h2, h1⟩ := bindS h1
        refine CodT.meet1 (fun a w => ∃ (x92 : Int), x92 = r2 ∧ Fr 216 [(2, .pointer (some ⟨b1, 0, none⟩)), (3, .pointer (some ⟨b5, 0, none⟩)), (20, .pointer (some ⟨b84, 0, none⟩)), (21, .int .i64 x87), (22, .int .u32 x92)] a ∧ Inv w0 Z w (star (pt b84 (.cells (cA (Value.int .u8) x88).toArray 55 (0, 0))) (star (pt b5 (.cells (cA (Value.int .u32) x12).toArray 130 (0, 0))) (star (pt b1 (.cells (cA (Value.int .u8) (List.replicate 32 (0 : Int))).toArray 55 (0, 0))) A)))) ?_ ?_
        ·
          refine CodT.block ?_
          refine (fun a ha => wp_loopN (fun k a w => ∃ (x93 : Int) (x94 : Int), ref02_Of.l6 k x93 x94 = some r2 ∧ Fr 216 [(2, .pointer (some ⟨b1, 0, none⟩)), (3, .pointer (some ⟨b5, 0, none⟩)), (20, .pointer (some ⟨b84, 0, none⟩)), (21, .int .i64 x87), (22, .int .u32 x93), (23, .int .i64 x94)] a ∧ Inv w0 Z w (star (pt b84 (.cells (cA (Value.int .u8) x88).toArray 55 (0, 0))) (star (pt b5 (.cells (cA (Value.int .u32) x12).toArray 130 (0, 0))) (star (pt b1 (.cells (cA (Value.int .u8) (List.replicate 32 (0 : Int))).toArray 55 (0, 0))) A)))) ?_ FU a w ⟨gt x12 (wi64 (x87.tdiv 4)), x87.tmod 4, h2, ha.keep [2, 3, 20, 21, 22, 23] (by kernel_rfl), hI⟩)
          clear h2 hI
          rintro k a w ⟨x93, x94, h2, ha, hI⟩
          rcases k with _ | k
          · cases h2
          simp only [ref02_Of.l6] at h2
          refine CodT.of ?_ ha
          refine CodT.seq ?_
          refine CodT.seq ?_
          refine CodT.regionL [0, 1] (by kernel_rfl) ?_
          refine OpsT.pures (r := []) [0, 1] [2, 3, 20, 21, 22, 23, 205] (S' := [(2, .pointer (some ⟨b1, 0, none⟩)), (3, .pointer (some ⟨b5, 0, none⟩)), (20, .pointer (some ⟨b84, 0, none⟩)), (21, .int .i64 x87), (22, .int .u32 x93), (23, .int .i64 x94), (205, .bool (decide (x94 < 3)))]) (by kernel_rfl) ?_
          refine OpsT.done ?_
          refine Qn.then ?_
          by_cases hb95 : (decide (x94 < 3)) = true
          · rw [if_pos hb95] at h2
            refine CodT.yes' (b := decide (x94 < 3)) (by kernel_rfl) hb95 ?_
            refine CodT.skip ?_
            refine Qn.then ?_
            refine CodT.seq ?_
            refine CodT.block ?_
            refine CodT.regionL [0, 1, 2] (by kernel_rfl) ?_
            refine OpsT.pures (r := []) [0, 1, 2] [2, 3, 20, 21, 22, 23] (S' := [(2, .pointer (some ⟨b1, 0, none⟩)), (3, .pointer (some ⟨b5, 0, none⟩)), (20, .pointer (some ⟨b84, 0, none⟩)), (21, .int .i64 x87), (22, .int .u32 (wu32 (x93.tdiv 256))), (23, .int .i64 x94)]) (by kernel_rfl) ?_
            refine OpsT.done ?_
            refine Qn.block_normal ?_
            refine Qn.then ?_
            refine CodT.regionL [0, 1, 2] (by kernel_rfl) ?_
            refine OpsT.pures (r := []) [0, 1, 2] [2, 3, 20, 21, 22, 23] (S' := [(2, .pointer (some ⟨b1, 0, none⟩)), (3, .pointer (some ⟨b5, 0, none⟩)), (20, .pointer (some ⟨b84, 0, none⟩)), (21, .int .i64 x87), (22, .int .u32 (wu32 (x93.tdiv 256))), (23, .int .i64 (wi64 (x94 + 1)))]) (by kernel_rfl) ?_
            refine OpsT.done ?_
            exact Qn.thenJ fun a ha => ⟨k, Nat.lt_succ_self k, wu32 (x93.tdiv 256), wi64 (x94 + 1), h2, ha.keep [2, 3, 20, 21, 22, 23] (by kernel_rfl), hI⟩
          · rw [if_neg hb95] at h2
            refine CodT.no' (b := decide (x94 < 3)) (by kernel_rfl) (by simpa using hb95) ?_
            refine CodT.exit ?_
            refine Qn.exit_then ?_
            refine Qn.exit_then ?_
            refine Qn.block ?_
            have e := someS h2
            subst e
            exact Qn.thenJ fun a ha => ⟨x93, rfl, ha.keep [2, 3, 20, 21, 22] (by kernel_rfl), hI⟩
        ·
          rintro a w ⟨x92, rfl, ha, hI⟩
          try dsimp only at h1
          refine Qn.of ?_ ha
          refine Qn.then ?_
          refine CodT.regionL [0, 1, 2, 3, 4, 5] (by kernel_rfl) ?_
          refine OpsT.pures (r := [4, 5]) [0, 1, 2, 3] [2, 3, 20, 21, 210, 213] (S' := [(2, .pointer (some ⟨b1, 0, none⟩)), (3, .pointer (some ⟨b5, 0, none⟩)), (20, .pointer (some ⟨b84, 0, none⟩)), (21, .int .i64 x87), (210, .int .i64 x87), (213, .int .u8 (wu8 (x92.tmod 256)))]) (by kernel_rfl) ?_
          obtain ⟨hg96, h1⟩ := guardS h1
          refine OpsT.cons (Does.yi (Yl.indexArr (d := 214) (T := 55) (k := .i64) (j := x87) (g := b84) (o := 0) (by kernel_rfl) Go.Proofs.Try.underlying55 ty5 hg96.1 hg96.2) hI ?_)
          refine OpsT.cons (Does.storeArr (e := (Value.int .u8)) (xs := x88) (u := wu8 (x92.tmod 256)) (T := 5) (b := b84) (j := x87) (by kernel_rfl) ty5 hI (by kernel_rfl) (by kernel_rfl) hg96.1 (by have := And.intro hl89 hg96.2; omega) ?_)
          intro w hI
          refine OpsT.done ?_
          refine Qn.block_normal ?_
          refine Qn.then ?_
          refine CodT.regionL [0, 1, 2] (by kernel_rfl) ?_
          refine OpsT.pures (r := []) [0, 1, 2] [2, 3, 20, 21] (S' := [(2, .pointer (some ⟨b1, 0, none⟩)), (3, .pointer (some ⟨b5, 0, none⟩)), (20, .pointer (some ⟨b84, 0, none⟩)), (21, .int .i64 (wi64 (x87 + 1)))]) (by kernel_rfl) ?_
          refine OpsT.done ?_
          exact Qn.thenJ fun a ha => ⟨k, Nat.lt_succ_self k, wi64 (x87 + 1), st x88 x87 (wu8 (x92.tmod 256)), h1, ha.keep [2, 3, 20, 21] (by kernel_rfl), hI, ((st_length _ _ _).trans hl89)⟩
      · rw [if_neg hb90] at h1
        refine CodT.no' (b := decide (x87 < 32)) (by kernel_rfl) (by simpa using hb90) ?_
        refine CodT.exit ?_
        refine Qn.exit_then ?_
        refine Qn.exit_then ?_
        refine Qn.block ?_
        have hI := hI.mono (pick2 _ _ _)
        have hI := hI.drop
        have e := someS h1
        subst e
        exact Qn.thenJ fun a ha => ⟨x88, rfl, ha.keep [2, 20] (by kernel_rfl), hI, hl89⟩
    ·
      rintro a w ⟨x85, rfl, ha, hI, hl86⟩
      try dsimp only at h0
      refine Qn.of ?_ ha
      refine Qn.then ?_
      refine CodT.seq ?_
      refine CodT.regionL [0, 1] (by kernel_rfl) ?_
      refine OpsT.cons (Does.yi (Yl.load (d := 215) (T := 55) (v := .agg (cA (Value.int .u8) x85).toArray) (by kernel_rfl) (ldBN ty55 (l := cA (Value.int .u8) x85) (o := 0) (cs := cA (Value.int .u8) x85) (ent_refl _) ((cA_length _ _).trans hl86) (whole _ _ ((cA_length _ _).trans hl86)))) hI ?_)
      have hI := hI.mono (pick2 _ _ _)
      refine OpsT.cons (Does.storeAll (T := 55) (b := b1) (n := 32) (xs := (List.replicate 32 (0 : Int))) (ys := x85) (by kernel_rfl) ty55 hI (fun _ => rfl) (by kernel_rfl) hl86 ?_)
      intro w hI
      refine OpsT.done ?_
      refine Qn.then ?_
      refine CodT.ret ?_
      have hL97 := (ldBN ty55 (l := cA (Value.int .u8) x85) (o := 0) (cs := cA (Value.int .u8) x85) (ent_refl _) ((cA_length _ _).trans hl86) (whole _ _ ((cA_length _ _).trans hl86))) w hI
      have hI := hI.drop
      have hI := hI.drop
      have e := someS h0
      subst e
      refine Qn.keep [2] (S' := [(2, .pointer (some ⟨b1, 0, none⟩))]) (by kernel_rfl) ?_
      exact post_ret (v := .agg (cA (Value.int .u8) x85).toArray) (fun a ha => RunRes.run (vs := [.agg (cA (Value.int .u8) x85).toArray]) (.cell (t := 2) (T := 55) (ad := ⟨b1, 0, none⟩) (by kernel_rfl) hL97 .nil) ha (by kernel_rfl)) ⟨rfl, hl86, hI⟩
end Go.Cen
