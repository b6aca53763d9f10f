/- That the machine computes these: walks, printed by a program of ours. -/
import Derived.Test.YthdoklobbcedcadPx
import Derived.Test.YthdoklobbcedcadWx2
set_option linter.unusedVariables false
set_option linter.unusedSimpArgs false
namespace Go.Cen
set_option maxRecDepth 100000 in
set_option maxHeartbeats 4000000 in
/-- cenotaph/cenotaphref05.Valid -/
theorem c12 (w0 w : World) (Z : Hp) (A : HP) (hI : Inv w0 Z w A) (a0 : ApiEvent) (hl1 : a0.Sum.length = 32) (r : Bool) (h0 : ref05_Valid a0 = some r) :
    Calls prog 12 #[.agg (c_ApiEvent a0).toArray] w (fun e w' => e = .returned (.bool r) ∧ Inv w0 Z w' A) := by
  have e4 := calls_intro (R := (fun e w' => e = .returned (.bool r) ∧ Inv w0 Z w' A)) (w := w) (args := [.agg (c_ApiEvent a0).toArray]) (fn := Go.Proofs.Try.f12) 131 Go.Proofs.Try.func12 (by rfl) Go.Proofs.Try.ntmps12 (by kernel_rfl)
  refine e4 ?_
  clear e4
  unfold ref05_Valid at h0
  refine CodT.seq ?_
  refine CodT.regionL [0, 1] (by kernel_rfl) ?_
  refine OpsT.cons (Does.boxL (d := 1) (T := 26) (v := .agg (c_ApiEvent a0).toArray) (c_ApiEvent a0) (by kernel_rfl) hI (by kernel_rfl) ?_)
  intro b2 w hI
  refine OpsT.pures (r := []) [1] [1] (S' := [(1, .pointer (some ⟨b2, 0, none⟩))]) (by kernel_rfl) ?_
  refine OpsT.done ?_
  refine Qn.then ?_
  refine CodT.seq ?_
  obtain ⟨r1, h1, h0⟩ := bindS h0
  refine CodT.meet (fun a w => ∃ (x3 : Bool), x3 = r1 ∧ Fr 131 [(1, .pointer (some ⟨b2, 0, none⟩)), (18, .bool x3)] a ∧ Inv w0 Z w (star (pt b2 (.cells (c_ApiEvent a0).toArray 26 (0, 0))) A)) ?_ ?_
  ·
    refine CodT.regionL [0, 1, 2, 3, 4, 5, 6, 7] (by kernel_rfl) ?_
    refine OpsT.pures (r := [1, 2, 3, 4, 5, 6, 7]) [0] [1, 11] (S' := [(1, .pointer (some ⟨b2, 0, none⟩)), (11, .pointer (some ⟨b2, 0, none⟩))]) (by kernel_rfl) ?_
    refine OpsT.cons (Does.yi (Yl.load (d := 12) (T := 22) (v := .int .i64 a0.Kind) (by kernel_rfl) (ldB ty22 (l := c_ApiEvent a0) (o := 0) (v := .int .i64 a0.Kind) (ent_refl _) (by kernel_rfl))) hI ?_)
    refine OpsT.pures (r := [4, 5, 6, 7]) [2, 3] [1, 14] (S' := [(1, .pointer (some ⟨b2, 0, none⟩)), (14, .bool (decide (a0.Kind < 0)))]) (by kernel_rfl) ?_
    by_cases hb4 : (decide (a0.Kind < 0)) = true
    · rw [if_pos hb4] at h1
      refine OpsT.keep [1, 14] (S' := [(1, .pointer (some ⟨b2, 0, none⟩)), (14, .bool true)]) (by (try simp only [hb4]); kernel_rfl) ?_
      refine OpsT.pures (r := []) [4, 5, 6, 7] [1, 18] (S' := [(1, .pointer (some ⟨b2, 0, none⟩)), (18, .bool true)]) (by kernel_rfl) ?_
      refine OpsT.done ?_
      have e := someS h1
      subst e
      exact Qn.thenJ fun a ha => ⟨true, rfl, ha.keep [1, 18] (by kernel_rfl), hI⟩
    · rw [if_neg hb4] at h1
      have hb4 : (decide (a0.Kind < 0)) = false := by simpa using hb4
      refine OpsT.keep [1, 14] (S' := [(1, .pointer (some ⟨b2, 0, none⟩)), (14, .bool false)]) (by (try simp only [hb4]); kernel_rfl) ?_
      refine OpsT.pures (r := [5, 6, 7]) [4] [1, 14, 15] (S' := [(1, .pointer (some ⟨b2, 0, none⟩)), (14, .bool false), (15, .pointer (some ⟨b2, 0, none⟩))]) (by kernel_rfl) ?_
      refine OpsT.cons (Does.yi (Yl.load (d := 16) (T := 22) (v := .int .i64 a0.Kind) (by kernel_rfl) (ldB ty22 (l := c_ApiEvent a0) (o := 0) (v := .int .i64 a0.Kind) (ent_refl _) (by kernel_rfl))) hI ?_)
      refine OpsT.pures (r := []) [6, 7] [1, 18] (S' := [(1, .pointer (some ⟨b2, 0, none⟩)), (18, .bool (decide (a0.Kind > 7)))]) (by kernel_rfl) ?_
      refine OpsT.done ?_
      have e := someS h1
      subst e
      exact Qn.thenJ fun a ha => ⟨decide (a0.Kind > 7), rfl, ha.keep [1, 18] (by kernel_rfl), hI⟩
  ·
    rintro a w ⟨x3, rfl, ha, hI⟩
    try dsimp only at h0
    refine CodT.of ?_ ha
    by_cases hb5 : x3 = true
    · rw [if_pos hb5] at h0
      refine CodT.yes' (b := x3) (by kernel_rfl) hb5 ?_
      refine CodT.seq ?_
      refine CodT.regionL [0] (by kernel_rfl) ?_
      refine OpsT.pures (r := []) [0] [2] (S' := [(2, .bool false)]) (by kernel_rfl) ?_
      refine OpsT.done ?_
      refine Qn.then ?_
      refine CodT.ret ?_
      refine Qn.ret_then ?_
      have hI := hI.drop
      have e := someS h0
      subst e
      refine Qn.keep [2] (S' := [(2, .bool false)]) (by kernel_rfl) ?_
      exact post_ret (v := .bool false) (fun a ha => RunRes.run (vs := [.bool false]) (.tmp (t := 2) (by kernel_rfl) .nil) ha (by kernel_rfl)) ⟨rfl, hI⟩
    · rw [if_neg hb5] at h0
      refine CodT.no' (b := x3) (by kernel_rfl) (by simpa using hb5) ?_
      refine CodT.skip ?_
      refine Qn.then ?_
      refine CodT.seq ?_
      refine CodT.regionL [0, 1, 2, 3, 4] (by kernel_rfl) ?_
      refine OpsT.pures (r := [1, 2, 3, 4]) [0] [1, 19] (S' := [(1, .pointer (some ⟨b2, 0, none⟩)), (19, .pointer (some ⟨b2, 0, none⟩))]) (by kernel_rfl) ?_
      refine OpsT.cons (Does.yi (Yl.load (d := 20) (T := 22) (v := .int .i64 a0.Kind) (by kernel_rfl) (ldB ty22 (l := c_ApiEvent a0) (o := 0) (v := .int .i64 a0.Kind) (ent_refl _) (by kernel_rfl))) hI ?_)
      obtain ⟨y7, hc6, h0⟩ := bindS h0
      try dsimp only at h0
      refine OpsT.cons (Does.call (d := some 21) (n := 21) (vs := [.int .i64 a0.Kind]) (by kernel_rfl) en21 (c21 w0 w _ _ hI a0.Kind _ hc6) ?_)
      rintro e w ⟨rfl, hl8, hI⟩
      refine ⟨_, rfl, ?_⟩
      refine OpsT.cons (Does.allocL (d := 3) (T := 48) (cA Value.bool (List.replicate 5 (false : Bool))) (by kernel_rfl) ty48 hI (by kernel_rfl) ?_)
      intro b9 w hI
      refine OpsT.cons (Does.storeAll (T := 48) (b := b9) (n := 5) (xs := (List.replicate 5 (false : Bool))) (ys := y7) (by kernel_rfl) ty48 hI (fun _ => rfl) (by kernel_rfl) hl8 ?_)
      intro w hI
      refine OpsT.done ?_
      refine Qn.then ?_
      refine CodT.seq ?_
      refine CodT.regionL [0] (by kernel_rfl) ?_
      refine OpsT.pures (r := []) [0] [1, 3, 4] (S' := [(1, .pointer (some ⟨b2, 0, none⟩)), (3, .pointer (some ⟨b9, 0, none⟩)), (4, .int .i64 0)]) (by kernel_rfl) ?_
      refine OpsT.done ?_
      refine Qn.then ?_
      obtain ⟨r1, h1, h0⟩ := bindS h0
      refine CodT.meet (fun a w => ∃ (x10 : Int), x10 = r1 ∧ Fr 131 [(1, .pointer (some ⟨b2, 0, none⟩)), (3, .pointer (some ⟨b9, 0, none⟩)), (4, .int .i64 x10)] a ∧ Inv w0 Z w (star (pt b9 (.cells (cA Value.bool y7).toArray 48 (0, 0))) (star (pt b2 (.cells (c_ApiEvent a0).toArray 26 (0, 0))) A))) ?_ ?_
      ·
        refine CodT.seq ?_
        refine CodT.regionL [0, 1, 2] (by kernel_rfl) ?_
        refine OpsT.pures (r := [1, 2]) [0] [1, 3, 4, 22] (S' := [(1, .pointer (some ⟨b2, 0, none⟩)), (3, .pointer (some ⟨b9, 0, none⟩)), (4, .int .i64 0), (22, .pointer (some ⟨b2, 0, none⟩))]) (by kernel_rfl) ?_
        refine OpsT.cons (Does.yi (Yl.load (d := 23) (T := 22) (v := .int .i64 a0.Kind) (by kernel_rfl) (ldB ty22 (l := c_ApiEvent a0) (o := 0) (v := .int .i64 a0.Kind) (pick2 _ _ _) (by kernel_rfl))) hI ?_)
        refine OpsT.pures (r := []) [2] [1, 3, 4, 24] (S' := [(1, .pointer (some ⟨b2, 0, none⟩)), (3, .pointer (some ⟨b9, 0, none⟩)), (4, .int .i64 0), (24, .bool (a0.Kind == 1))]) (by kernel_rfl) ?_
        refine OpsT.done ?_
        refine Qn.then ?_
        by_cases hb11 : (a0.Kind == 1) = true
        · rw [if_pos hb11] at h1
          refine CodT.yes' (b := a0.Kind == 1) (by kernel_rfl) hb11 ?_
          refine CodT.regionL [0] (by kernel_rfl) ?_
          refine OpsT.pures (r := []) [0] [1, 3, 4] (S' := [(1, .pointer (some ⟨b2, 0, none⟩)), (3, .pointer (some ⟨b9, 0, none⟩)), (4, .int .i64 1)]) (by kernel_rfl) ?_
          refine OpsT.done ?_
          have e := someS h1
          subst e
          exact Qn.thenJ fun a ha => ⟨1, rfl, ha.keep [1, 3, 4] (by kernel_rfl), hI⟩
        · rw [if_neg hb11] at h1
          refine CodT.no' (b := a0.Kind == 1) (by kernel_rfl) (by simpa using hb11) ?_
          refine CodT.skip ?_
          have e := someS h1
          subst e
          exact Qn.thenJ fun a ha => ⟨0, rfl, ha.keep [1, 3, 4] (by kernel_rfl), hI⟩
      ·
        rintro a w ⟨x10, rfl, ha, hI⟩
        try dsimp only at h0
        refine CodT.of ?_ ha
        refine CodT.seq ?_
        refine CodT.regionL [0, 1, 2, 3] (by kernel_rfl) ?_
        refine OpsT.pures (r := [1, 2, 3]) [0] [1, 3, 4, 25] (S' := [(1, .pointer (some ⟨b2, 0, none⟩)), (3, .pointer (some ⟨b9, 0, none⟩)), (4, .int .i64 x10), (25, .pointer (some ⟨b2, 2, none⟩))]) (by kernel_rfl) ?_
        refine OpsT.cons (Does.yi (Yl.load (d := 26) (T := 9) (v := .string a0.Name) (by kernel_rfl) (ldB ty9 (l := c_ApiEvent a0) (o := 2) (v := .string a0.Name) (pick2 _ _ _) (by kernel_rfl))) hI ?_)
        obtain ⟨y13, hc12, h0⟩ := bindS h0
        try dsimp only at h0
        refine OpsT.cons (Does.call (d := some 27) (n := 25) (vs := [.string a0.Name]) (by kernel_rfl) en25 (c25 w0 w _ _ hI a0.Name _ hc12) ?_)
        rintro e w ⟨rfl, hI⟩
        refine ⟨_, rfl, ?_⟩
        refine OpsT.pures (r := []) [3] [1, 3, 4, 5] (S' := [(1, .pointer (some ⟨b2, 0, none⟩)), (3, .pointer (some ⟨b9, 0, none⟩)), (4, .int .i64 x10), (5, .bool y13)]) (by kernel_rfl) ?_
        refine OpsT.done ?_
        refine Qn.then ?_
        obtain ⟨r1, h1, h0⟩ := bindS h0
        refine CodT.meet (fun a w => ∃ (x14 : Bool), x14 = r1 ∧ Fr 131 [(1, .pointer (some ⟨b2, 0, none⟩)), (3, .pointer (some ⟨b9, 0, none⟩)), (4, .int .i64 x10), (5, .bool y13), (6, .bool x14)] a ∧ Inv w0 Z w (star (pt b9 (.cells (cA Value.bool y7).toArray 48 (0, 0))) (star (pt b2 (.cells (c_ApiEvent a0).toArray 26 (0, 0))) A))) ?_ ?_
        ·
          refine CodT.regionL [0, 1, 2, 3, 4, 5, 6, 7, 8, 9, 10, 11, 12, 13, 14, 15, 16, 17, 18, 19, 20, 21, 22] (by kernel_rfl) ?_
          refine OpsT.pures (r := [1, 2, 3, 4, 5, 6, 7, 8, 9, 10, 11, 12, 13, 14, 15, 16, 17, 18, 19, 20, 21, 22]) [0] [1, 3, 4, 5, 28] (S' := [(1, .pointer (some ⟨b2, 0, none⟩)), (3, .pointer (some ⟨b9, 0, none⟩)), (4, .int .i64 x10), (5, .bool y13), (28, .pointer (some ⟨b9, 0, none⟩))]) (by kernel_rfl) ?_
          refine OpsT.cons (Does.yi (Yl.load (d := 29) (T := 4) (v := .bool (gt y7 0)) (by kernel_rfl) (ldB ty4 (l := cA Value.bool y7) (o := 0) (v := .bool (gt y7 0)) (ent_refl _) (arr_getC _ _ 0 hl8 (by kernel_rfl)))) hI ?_)
          refine OpsT.pures (r := [3, 4, 5, 6, 7, 8, 9, 10, 11, 12, 13, 14, 15, 16, 17, 18, 19, 20, 21, 22]) [2] [1, 3, 4, 5, 30] (S' := [(1, .pointer (some ⟨b2, 0, none⟩)), (3, .pointer (some ⟨b9, 0, none⟩)), (4, .int .i64 x10), (5, .bool y13), (30, .bool (gt y7 0))]) (by kernel_rfl) ?_
          by_cases hb15 : (gt y7 0) = true
          · rw [if_pos hb15] at h1
            refine OpsT.keep [1, 3, 4, 5, 30] (S' := [(1, .pointer (some ⟨b2, 0, none⟩)), (3, .pointer (some ⟨b9, 0, none⟩)), (4, .int .i64 x10), (5, .bool y13), (30, .bool true)]) (by (try simp only [hb15]); kernel_rfl) ?_
            refine OpsT.pures (r := [4, 5, 6, 7, 8, 9, 10, 11, 12, 13, 14, 15, 16, 17, 18, 19, 20, 21, 22]) [3] [1, 3, 4, 5, 30, 31] (S' := [(1, .pointer (some ⟨b2, 0, none⟩)), (3, .pointer (some ⟨b9, 0, none⟩)), (4, .int .i64 x10), (5, .bool y13), (30, .bool true), (31, .pointer (some ⟨b2, 1, none⟩))]) (by kernel_rfl) ?_
            refine OpsT.cons (Does.yi (Yl.load (d := 32) (T := 3) (v := .int .i64 a0.ID) (by kernel_rfl) (ldB ty3 (l := c_ApiEvent a0) (o := 1) (v := .int .i64 a0.ID) (pick2 _ _ _) (by kernel_rfl))) hI ?_)
            refine OpsT.pures (r := [8, 9, 10, 11, 12, 13, 14, 15, 16, 17, 18, 19, 20, 21, 22]) [5, 6, 7] [1, 3, 4, 5, 35] (S' := [(1, .pointer (some ⟨b2, 0, none⟩)), (3, .pointer (some ⟨b9, 0, none⟩)), (4, .int .i64 x10), (5, .bool y13), (35, .bool (decide (a0.ID ≥ 1)))]) (by kernel_rfl) ?_
            by_cases hb16 : (decide (a0.ID ≥ 1)) = true
            · rw [if_pos hb16] at h1
              refine OpsT.keep [1, 3, 4, 5, 35] (S' := [(1, .pointer (some ⟨b2, 0, none⟩)), (3, .pointer (some ⟨b9, 0, none⟩)), (4, .int .i64 x10), (5, .bool y13), (35, .bool true)]) (by (try simp only [hb16]); kernel_rfl) ?_
              refine OpsT.pures (r := [9, 10, 11, 12, 13, 14, 15, 16, 17, 18, 19, 20, 21, 22]) [8] [1, 3, 4, 5, 35, 36] (S' := [(1, .pointer (some ⟨b2, 0, none⟩)), (3, .pointer (some ⟨b9, 0, none⟩)), (4, .int .i64 x10), (5, .bool y13), (35, .bool true), (36, .pointer (some ⟨b2, 1, none⟩))]) (by kernel_rfl) ?_
              refine OpsT.cons (Does.yi (Yl.load (d := 37) (T := 3) (v := .int .i64 a0.ID) (by kernel_rfl) (ldB ty3 (l := c_ApiEvent a0) (o := 1) (v := .int .i64 a0.ID) (pick2 _ _ _) (by kernel_rfl))) hI ?_)
              refine OpsT.pures (r := [13, 14, 15, 16, 17, 18, 19, 20, 21, 22]) [10, 11, 12] [1, 3, 4, 5, 40] (S' := [(1, .pointer (some ⟨b2, 0, none⟩)), (3, .pointer (some ⟨b9, 0, none⟩)), (4, .int .i64 x10), (5, .bool y13), (40, .bool (decide (a0.ID ≤ 1099511627776)))]) (by kernel_rfl) ?_
              by_cases hb17 : (decide (a0.ID ≤ 1099511627776)) = true
              · rw [if_pos hb17] at h1
                refine OpsT.keep [1, 3, 4, 5, 40] (S' := [(1, .pointer (some ⟨b2, 0, none⟩)), (3, .pointer (some ⟨b9, 0, none⟩)), (4, .int .i64 x10), (5, .bool y13), (40, .bool true)]) (by (try simp only [hb17]); kernel_rfl) ?_
                refine OpsT.pures (r := []) [13, 14, 15, 16, 17, 18, 19, 20, 21, 22] [1, 3, 4, 5, 6] (S' := [(1, .pointer (some ⟨b2, 0, none⟩)), (3, .pointer (some ⟨b9, 0, none⟩)), (4, .int .i64 x10), (5, .bool y13), (6, .bool true)]) (by kernel_rfl) ?_
                refine OpsT.done ?_
                have e := someS h1
                subst e
                exact Qn.thenJ fun a ha => ⟨true, rfl, ha.keep [1, 3, 4, 5, 6] (by kernel_rfl), hI⟩
              · rw [if_neg hb17] at h1
                have hb17 : (decide (a0.ID ≤ 1099511627776)) = false := by simpa using hb17
                refine OpsT.keep [1, 3, 4, 5, 40] (S' := [(1, .pointer (some ⟨b2, 0, none⟩)), (3, .pointer (some ⟨b9, 0, none⟩)), (4, .int .i64 x10), (5, .bool y13), (40, .bool false)]) (by (try simp only [hb17]); kernel_rfl) ?_
                refine OpsT.pures (r := [14, 15, 16, 17, 18, 19, 20, 21, 22]) [13] [1, 3, 4, 5, 40, 41] (S' := [(1, .pointer (some ⟨b2, 0, none⟩)), (3, .pointer (some ⟨b9, 0, none⟩)), (4, .int .i64 x10), (5, .bool y13), (40, .bool false), (41, .pointer (some ⟨b9, 0, none⟩))]) (by kernel_rfl) ?_
                refine OpsT.cons (Does.yi (Yl.load (d := 42) (T := 4) (v := .bool (gt y7 0)) (by kernel_rfl) (ldB ty4 (l := cA Value.bool y7) (o := 0) (v := .bool (gt y7 0)) (ent_refl _) (arr_getC _ _ 0 hl8 (by kernel_rfl)))) hI ?_)
                refine OpsT.pures (r := [17, 18, 19, 20, 21, 22]) [15, 16] [1, 3, 4, 5, 40, 44] (S' := [(1, .pointer (some ⟨b2, 0, none⟩)), (3, .pointer (some ⟨b9, 0, none⟩)), (4, .int .i64 x10), (5, .bool y13), (40, .bool false), (44, .bool (!(gt y7 0)))]) (by kernel_rfl) ?_
                by_cases hb18 : (!(gt y7 0)) = true
                · rw [if_pos hb18] at h1
                  refine OpsT.keep [1, 3, 4, 5, 40, 44] (S' := [(1, .pointer (some ⟨b2, 0, none⟩)), (3, .pointer (some ⟨b9, 0, none⟩)), (4, .int .i64 x10), (5, .bool y13), (40, .bool false), (44, .bool true)]) (by (try simp only [hb18]); kernel_rfl) ?_
                  refine OpsT.pures (r := [18, 19, 20, 21, 22]) [17] [1, 3, 4, 5, 40, 44, 45] (S' := [(1, .pointer (some ⟨b2, 0, none⟩)), (3, .pointer (some ⟨b9, 0, none⟩)), (4, .int .i64 x10), (5, .bool y13), (40, .bool false), (44, .bool true), (45, .pointer (some ⟨b2, 1, none⟩))]) (by kernel_rfl) ?_
                  refine OpsT.cons (Does.yi (Yl.load (d := 46) (T := 3) (v := .int .i64 a0.ID) (by kernel_rfl) (ldB ty3 (l := c_ApiEvent a0) (o := 1) (v := .int .i64 a0.ID) (pick2 _ _ _) (by kernel_rfl))) hI ?_)
                  refine OpsT.pures (r := []) [19, 20, 21, 22] [1, 3, 4, 5, 6] (S' := [(1, .pointer (some ⟨b2, 0, none⟩)), (3, .pointer (some ⟨b9, 0, none⟩)), (4, .int .i64 x10), (5, .bool y13), (6, .bool (a0.ID == 0))]) (by kernel_rfl) ?_
                  refine OpsT.done ?_
                  have e := someS h1
                  subst e
                  exact Qn.thenJ fun a ha => ⟨a0.ID == 0, rfl, ha.keep [1, 3, 4, 5, 6] (by kernel_rfl), hI⟩
                · rw [if_neg hb18] at h1
                  have hb18 : (!(gt y7 0)) = false := by simpa using hb18
                  refine OpsT.keep [1, 3, 4, 5, 40, 44] (S' := [(1, .pointer (some ⟨b2, 0, none⟩)), (3, .pointer (some ⟨b9, 0, none⟩)), (4, .int .i64 x10), (5, .bool y13), (40, .bool false), (44, .bool false)]) (by (try simp only [hb18]); kernel_rfl) ?_
                  refine OpsT.pures (r := []) [17, 18, 19, 20, 21, 22] [1, 3, 4, 5, 6] (S' := [(1, .pointer (some ⟨b2, 0, none⟩)), (3, .pointer (some ⟨b9, 0, none⟩)), (4, .int .i64 x10), (5, .bool y13), (6, .bool false)]) (by kernel_rfl) ?_
                  refine OpsT.done ?_
                  have e := someS h1
                  subst e
                  exact Qn.thenJ fun a ha => ⟨false, rfl, ha.keep [1, 3, 4, 5, 6] (by kernel_rfl), hI⟩
            · rw [if_neg hb16] at h1
              have hb16 : (decide (a0.ID ≥ 1)) = false := by simpa using hb16
              refine OpsT.keep [1, 3, 4, 5, 35] (S' := [(1, .pointer (some ⟨b2, 0, none⟩)), (3, .pointer (some ⟨b9, 0, none⟩)), (4, .int .i64 x10), (5, .bool y13), (35, .bool false)]) (by (try simp only [hb16]); kernel_rfl) ?_
              refine OpsT.pures (r := [14, 15, 16, 17, 18, 19, 20, 21, 22]) [8, 9, 10, 11, 12, 13] [1, 3, 4, 5, 40, 41] (S' := [(1, .pointer (some ⟨b2, 0, none⟩)), (3, .pointer (some ⟨b9, 0, none⟩)), (4, .int .i64 x10), (5, .bool y13), (40, .bool false), (41, .pointer (some ⟨b9, 0, none⟩))]) (by kernel_rfl) ?_
              refine OpsT.cons (Does.yi (Yl.load (d := 42) (T := 4) (v := .bool (gt y7 0)) (by kernel_rfl) (ldB ty4 (l := cA Value.bool y7) (o := 0) (v := .bool (gt y7 0)) (ent_refl _) (arr_getC _ _ 0 hl8 (by kernel_rfl)))) hI ?_)
              refine OpsT.pures (r := [17, 18, 19, 20, 21, 22]) [15, 16] [1, 3, 4, 5, 40, 44] (S' := [(1, .pointer (some ⟨b2, 0, none⟩)), (3, .pointer (some ⟨b9, 0, none⟩)), (4, .int .i64 x10), (5, .bool y13), (40, .bool false), (44, .bool (!(gt y7 0)))]) (by kernel_rfl) ?_
              by_cases hb19 : (!(gt y7 0)) = true
              · rw [if_pos hb19] at h1
                refine OpsT.keep [1, 3, 4, 5, 40, 44] (S' := [(1, .pointer (some ⟨b2, 0, none⟩)), (3, .pointer (some ⟨b9, 0, none⟩)), (4, .int .i64 x10), (5, .bool y13), (40, .bool false), (44, .bool true)]) (by (try simp only [hb19]); kernel_rfl) ?_
                refine OpsT.pures (r := [18, 19, 20, 21, 22]) [17] [1, 3, 4, 5, 40, 44, 45] (S' := [(1, .pointer (some ⟨b2, 0, none⟩)), (3, .pointer (some ⟨b9, 0, none⟩)), (4, .int .i64 x10), (5, .bool y13), (40, .bool false), (44, .bool true), (45, .pointer (some ⟨b2, 1, none⟩))]) (by kernel_rfl) ?_
                refine OpsT.cons (Does.yi (Yl.load (d := 46) (T := 3) (v := .int .i64 a0.ID) (by kernel_rfl) (ldB ty3 (l := c_ApiEvent a0) (o := 1) (v := .int .i64 a0.ID) (pick2 _ _ _) (by kernel_rfl))) hI ?_)
                refine OpsT.pures (r := []) [19, 20, 21, 22] [1, 3, 4, 5, 6] (S' := [(1, .pointer (some ⟨b2, 0, none⟩)), (3, .pointer (some ⟨b9, 0, none⟩)), (4, .int .i64 x10), (5, .bool y13), (6, .bool (a0.ID == 0))]) (by kernel_rfl) ?_
                refine OpsT.done ?_
                have e := someS h1
                subst e
                exact Qn.thenJ fun a ha => ⟨a0.ID == 0, rfl, ha.keep [1, 3, 4, 5, 6] (by kernel_rfl), hI⟩
              · rw [if_neg hb19] at h1
                have hb19 : (!(gt y7 0)) = false := by simpa using hb19
                refine OpsT.keep [1, 3, 4, 5, 40, 44] (S' := [(1, .pointer (some ⟨b2, 0, none⟩)), (3, .pointer (some ⟨b9, 0, none⟩)), (4, .int .i64 x10), (5, .bool y13), (40, .bool false), (44, .bool false)]) (by (try simp only [hb19]); kernel_rfl) ?_
                refine OpsT.pures (r := []) [17, 18, 19, 20, 21, 22] [1, 3, 4, 5, 6] (S' := [(1, .pointer (some ⟨b2, 0, none⟩)), (3, .pointer (some ⟨b9, 0, none⟩)), (4, .int .i64 x10), (5, .bool y13), (6, .bool false)]) (by kernel_rfl) ?_
                refine OpsT.done ?_
                have e := someS h1
                subst e
                exact Qn.thenJ fun a ha => ⟨false, rfl, ha.keep [1, 3, 4, 5, 6] (by kernel_rfl), hI⟩
          · rw [if_neg hb15] at h1
            have hb15 : (gt y7 0) = false := by simpa using hb15
            refine OpsT.keep [1, 3, 4, 5, 30] (S' := [(1, .pointer (some ⟨b2, 0, none⟩)), (3, .pointer (some ⟨b9, 0, none⟩)), (4, .int .i64 x10), (5, .bool y13), (30, .bool false)]) (by (try simp only [hb15]); kernel_rfl) ?_
            refine OpsT.pures (r := [14, 15, 16, 17, 18, 19, 20, 21, 22]) [3, 4, 5, 6, 7, 8, 9, 10, 11, 12, 13] [1, 3, 4, 5, 40, 41] (S' := [(1, .pointer (some ⟨b2, 0, none⟩)), (3, .pointer (some ⟨b9, 0, none⟩)), (4, .int .i64 x10), (5, .bool y13), (40, .bool false), (41, .pointer (some ⟨b9, 0, none⟩))]) (by kernel_rfl) ?_
            refine OpsT.cons (Does.yi (Yl.load (d := 42) (T := 4) (v := .bool (gt y7 0)) (by kernel_rfl) (ldB ty4 (l := cA Value.bool y7) (o := 0) (v := .bool (gt y7 0)) (ent_refl _) (arr_getC _ _ 0 hl8 (by kernel_rfl)))) hI ?_)
            refine OpsT.pures (r := [17, 18, 19, 20, 21, 22]) [15, 16] [1, 3, 4, 5, 40, 44] (S' := [(1, .pointer (some ⟨b2, 0, none⟩)), (3, .pointer (some ⟨b9, 0, none⟩)), (4, .int .i64 x10), (5, .bool y13), (40, .bool false), (44, .bool (!(gt y7 0)))]) (by kernel_rfl) ?_
            by_cases hb20 : (!(gt y7 0)) = true
            · rw [if_pos hb20] at h1
              refine OpsT.keep [1, 3, 4, 5, 40, 44] (S' := [(1, .pointer (some ⟨b2, 0, none⟩)), (3, .pointer (some ⟨b9, 0, none⟩)), (4, .int .i64 x10), (5, .bool y13), (40, .bool false), (44, .bool true)]) (by (try simp only [hb20]); kernel_rfl) ?_
              refine OpsT.pures (r := [18, 19, 20, 21, 22]) [17] [1, 3, 4, 5, 40, 44, 45] (S' := [(1, .pointer (some ⟨b2, 0, none⟩)), (3, .pointer (some ⟨b9, 0, none⟩)), (4, .int .i64 x10), (5, .bool y13), (40, .bool false), (44, .bool true), (45, .pointer (some ⟨b2, 1, none⟩))]) (by kernel_rfl) ?_
              refine OpsT.cons (Does.yi (Yl.load (d := 46) (T := 3) (v := .int .i64 a0.ID) (by kernel_rfl) (ldB ty3 (l := c_ApiEvent a0) (o := 1) (v := .int .i64 a0.ID) (pick2 _ _ _) (by kernel_rfl))) hI ?_)
              refine OpsT.pures (r := []) [19, 20, 21, 22] [1, 3, 4, 5, 6] (S' := [(1, .pointer (some ⟨b2, 0, none⟩)), (3, .pointer (some ⟨b9, 0, none⟩)), (4, .int .i64 x10), (5, .bool y13), (6, .bool (a0.ID == 0))]) (by kernel_rfl) ?_
              refine OpsT.done ?_
              have e := someS h1
              subst e
              exact Qn.thenJ fun a ha => ⟨a0.ID == 0, rfl, ha.keep [1, 3, 4, 5, 6] (by kernel_rfl), hI⟩
            · rw [if_neg hb20] at h1
              have hb20 : (!(gt y7 0)) = false := by simpa using hb20
              refine OpsT.keep [1, 3, 4, 5, 40, 44] (S' := [(1, .pointer (some ⟨b2, 0, none⟩)), (3, .pointer (some ⟨b9, 0, none⟩)), (4, .int .i64 x10), (5, .bool y13), (40, .bool false), (44, .bool false)]) (by (try simp only [hb20]); kernel_rfl) ?_
              refine OpsT.pures (r := []) [17, 18, 19, 20, 21, 22] [1, 3, 4, 5, 6] (S' := [(1, .pointer (some ⟨b2, 0, none⟩)), (3, .pointer (some ⟨b9, 0, none⟩)), (4, .int .i64 x10), (5, .bool y13), (6, .bool false)]) (by kernel_rfl) ?_
              refine OpsT.done ?_
              have e := someS h1
              subst e
              exact Qn.thenJ fun a ha => ⟨false, rfl, ha.keep [1, 3, 4, 5, 6] (by kernel_rfl), hI⟩
        ·
          rintro a w ⟨x14, rfl, ha, hI⟩
          try dsimp only at h0
          refine CodT.of ?_ ha
          obtain ⟨r1, h1, h0⟩ := bindS h0
          refine CodT.meet (fun a w => ∃ (x21 : Bool), x21 = r1 ∧ Fr 131 [(1, .pointer (some ⟨b2, 0, none⟩)), (3, .pointer (some ⟨b9, 0, none⟩)), (4, .int .i64 x10), (6, .bool x14), (7, .bool x21)] a ∧ Inv w0 Z w (star (pt b9 (.cells (cA Value.bool y7).toArray 48 (0, 0))) (star (pt b2 (.cells (c_ApiEvent a0).toArray 26 (0, 0))) A))) ?_ ?_
          ·
            refine CodT.regionL [0, 1, 2, 3, 4, 5, 6, 7, 8, 9, 10, 11, 12, 13, 14, 15] (by kernel_rfl) ?_
            refine OpsT.pures (r := [1, 2, 3, 4, 5, 6, 7, 8, 9, 10, 11, 12, 13, 14, 15]) [0] [1, 3, 4, 5, 6, 50] (S' := [(1, .pointer (some ⟨b2, 0, none⟩)), (3, .pointer (some ⟨b9, 0, none⟩)), (4, .int .i64 x10), (5, .bool y13), (6, .bool x14), (50, .pointer (some ⟨b9, 1, none⟩))]) (by kernel_rfl) ?_
            refine OpsT.cons (Does.yi (Yl.load (d := 51) (T := 4) (v := .bool (gt y7 1)) (by kernel_rfl) (ldB ty4 (l := cA Value.bool y7) (o := 1) (v := .bool (gt y7 1)) (ent_refl _) (arr_getC _ _ 1 hl8 (by kernel_rfl)))) hI ?_)
            refine OpsT.pures (r := [3, 4, 5, 6, 7, 8, 9, 10, 11, 12, 13, 14, 15]) [2] [1, 3, 4, 5, 6, 52] (S' := [(1, .pointer (some ⟨b2, 0, none⟩)), (3, .pointer (some ⟨b9, 0, none⟩)), (4, .int .i64 x10), (5, .bool y13), (6, .bool x14), (52, .bool (gt y7 1))]) (by kernel_rfl) ?_
            by_cases hb22 : (gt y7 1) = true
            · rw [if_pos hb22] at h1
              refine OpsT.keep [1, 3, 4, 5, 6, 52] (S' := [(1, .pointer (some ⟨b2, 0, none⟩)), (3, .pointer (some ⟨b9, 0, none⟩)), (4, .int .i64 x10), (5, .bool y13), (6, .bool x14), (52, .bool true)]) (by (try simp only [hb22]); kernel_rfl) ?_
              refine OpsT.pures (r := [6, 7, 8, 9, 10, 11, 12, 13, 14, 15]) [3, 4, 5] [1, 3, 4, 6, 55] (S' := [(1, .pointer (some ⟨b2, 0, none⟩)), (3, .pointer (some ⟨b9, 0, none⟩)), (4, .int .i64 x10), (6, .bool x14), (55, .bool y13)]) (by kernel_rfl) ?_
              by_cases hb23 : y13 = true
              · rw [if_pos hb23] at h1
                refine OpsT.keep [1, 3, 4, 6, 55] (S' := [(1, .pointer (some ⟨b2, 0, none⟩)), (3, .pointer (some ⟨b9, 0, none⟩)), (4, .int .i64 x10), (6, .bool x14), (55, .bool true)]) (by (try simp only [hb23]); kernel_rfl) ?_
                refine OpsT.pures (r := []) [6, 7, 8, 9, 10, 11, 12, 13, 14, 15] [1, 3, 4, 6, 7] (S' := [(1, .pointer (some ⟨b2, 0, none⟩)), (3, .pointer (some ⟨b9, 0, none⟩)), (4, .int .i64 x10), (6, .bool x14), (7, .bool true)]) (by kernel_rfl) ?_
                refine OpsT.done ?_
                have e := someS h1
                subst e
                exact Qn.thenJ fun a ha => ⟨true, rfl, ha.keep [1, 3, 4, 6, 7] (by kernel_rfl), hI⟩
              · rw [if_neg hb23] at h1
                have hb23 : y13 = false := by simpa using hb23
                refine OpsT.keep [1, 3, 4, 6, 55] (S' := [(1, .pointer (some ⟨b2, 0, none⟩)), (3, .pointer (some ⟨b9, 0, none⟩)), (4, .int .i64 x10), (6, .bool x14), (55, .bool false)]) (by (try simp only [hb23]); kernel_rfl) ?_
                refine OpsT.pures (r := [7, 8, 9, 10, 11, 12, 13, 14, 15]) [6] [1, 3, 4, 6, 55, 56] (S' := [(1, .pointer (some ⟨b2, 0, none⟩)), (3, .pointer (some ⟨b9, 0, none⟩)), (4, .int .i64 x10), (6, .bool x14), (55, .bool false), (56, .pointer (some ⟨b9, 1, none⟩))]) (by kernel_rfl) ?_
                refine OpsT.cons (Does.yi (Yl.load (d := 57) (T := 4) (v := .bool (gt y7 1)) (by kernel_rfl) (ldB ty4 (l := cA Value.bool y7) (o := 1) (v := .bool (gt y7 1)) (ent_refl _) (arr_getC _ _ 1 hl8 (by kernel_rfl)))) hI ?_)
                refine OpsT.pures (r := [10, 11, 12, 13, 14, 15]) [8, 9] [1, 3, 4, 6, 55, 59] (S' := [(1, .pointer (some ⟨b2, 0, none⟩)), (3, .pointer (some ⟨b9, 0, none⟩)), (4, .int .i64 x10), (6, .bool x14), (55, .bool false), (59, .bool (!(gt y7 1)))]) (by kernel_rfl) ?_
                by_cases hb24 : (!(gt y7 1)) = true
                · rw [if_pos hb24] at h1
                  refine OpsT.keep [1, 3, 4, 6, 55, 59] (S' := [(1, .pointer (some ⟨b2, 0, none⟩)), (3, .pointer (some ⟨b9, 0, none⟩)), (4, .int .i64 x10), (6, .bool x14), (55, .bool false), (59, .bool true)]) (by (try simp only [hb24]); kernel_rfl) ?_
                  refine OpsT.pures (r := [11, 12, 13, 14, 15]) [10] [1, 3, 4, 6, 55, 59, 60] (S' := [(1, .pointer (some ⟨b2, 0, none⟩)), (3, .pointer (some ⟨b9, 0, none⟩)), (4, .int .i64 x10), (6, .bool x14), (55, .bool false), (59, .bool true), (60, .pointer (some ⟨b2, 2, none⟩))]) (by kernel_rfl) ?_
                  refine OpsT.cons (Does.yi (Yl.load (d := 61) (T := 9) (v := .string a0.Name) (by kernel_rfl) (ldB ty9 (l := c_ApiEvent a0) (o := 2) (v := .string a0.Name) (pick2 _ _ _) (by kernel_rfl))) hI ?_)
                  refine OpsT.pures (r := []) [12, 13, 14, 15] [1, 3, 4, 6, 7] (S' := [(1, .pointer (some ⟨b2, 0, none⟩)), (3, .pointer (some ⟨b9, 0, none⟩)), (4, .int .i64 x10), (6, .bool x14), (7, .bool (seq a0.Name (⟨#[]⟩ : ByteArray)))]) (by kernel_rfl) ?_
                  refine OpsT.done ?_
                  have e := someS h1
                  subst e
                  exact Qn.thenJ fun a ha => ⟨seq a0.Name (⟨#[]⟩ : ByteArray), rfl, ha.keep [1, 3, 4, 6, 7] (by kernel_rfl), hI⟩
                · rw [if_neg hb24] at h1
                  have hb24 : (!(gt y7 1)) = false := by simpa using hb24
                  refine OpsT.keep [1, 3, 4, 6, 55, 59] (S' := [(1, .pointer (some ⟨b2, 0, none⟩)), (3, .pointer (some ⟨b9, 0, none⟩)), (4, .int .i64 x10), (6, .bool x14), (55, .bool false), (59, .bool false)]) (by (try simp only [hb24]); kernel_rfl) ?_
                  refine OpsT.pures (r := []) [10, 11, 12, 13, 14, 15] [1, 3, 4, 6, 7] (S' := [(1, .pointer (some ⟨b2, 0, none⟩)), (3, .pointer (some ⟨b9, 0, none⟩)), (4, .int .i64 x10), (6, .bool x14), (7, .bool false)]) (by kernel_rfl) ?_
                  refine OpsT.done ?_
                  have e := someS h1
                  subst e
                  exact Qn.thenJ fun a ha => ⟨false, rfl, ha.keep [1, 3, 4, 6, 7] (by kernel_rfl), hI⟩
            · rw [if_neg hb22] at h1
              have hb22 : (gt y7 1) = false := by simpa using hb22
              refine OpsT.keep [1, 3, 4, 5, 6, 52] (S' := [(1, .pointer (some ⟨b2, 0, none⟩)), (3, .pointer (some ⟨b9, 0, none⟩)), (4, .int .i64 x10), (5, .bool y13), (6, .bool x14), (52, .bool false)]) (by (try simp only [hb22]); kernel_rfl) ?_
              refine OpsT.pures (r := [7, 8, 9, 10, 11, 12, 13, 14, 15]) [3, 4, 5, 6] [1, 3, 4, 6, 55, 56] (S' := [(1, .pointer (some ⟨b2, 0, none⟩)), (3, .pointer (some ⟨b9, 0, none⟩)), (4, .int .i64 x10), (6, .bool x14), (55, .bool false), (56, .pointer (some ⟨b9, 1, none⟩))]) (by kernel_rfl) ?_
              refine OpsT.cons (Does.yi (Yl.load (d := 57) (T := 4) (v := .bool (gt y7 1)) (by kernel_rfl) (ldB ty4 (l := cA Value.bool y7) (o := 1) (v := .bool (gt y7 1)) (ent_refl _) (arr_getC _ _ 1 hl8 (by kernel_rfl)))) hI ?_)
              refine OpsT.pures (r := [10, 11, 12, 13, 14, 15]) [8, 9] [1, 3, 4, 6, 55, 59] (S' := [(1, .pointer (some ⟨b2, 0, none⟩)), (3, .pointer (some ⟨b9, 0, none⟩)), (4, .int .i64 x10), (6, .bool x14), (55, .bool false), (59, .bool (!(gt y7 1)))]) (by kernel_rfl) ?_
              by_cases hb25 : (!(gt y7 1)) = true
              · rw [if_pos hb25] at h1
                refine OpsT.keep [1, 3, 4, 6, 55, 59] (S' := [(1, .pointer (some ⟨b2, 0, none⟩)), (3, .pointer (some ⟨b9, 0, none⟩)), (4, .int .i64 x10), (6, .bool x14), (55, .bool false), (59, .bool true)]) (by (try simp only [hb25]); kernel_rfl) ?_
                refine OpsT.pures (r := [11, 12, 13, 14, 15]) [10] [1, 3, 4, 6, 55, 59, 60] (S' := [(1, .pointer (some ⟨b2, 0, none⟩)), (3, .pointer (some ⟨b9, 0, none⟩)), (4, .int .i64 x10), (6, .bool x14), (55, .bool false), (59, .bool true), (60, .pointer (some ⟨b2, 2, none⟩))]) (by kernel_rfl) ?_
                refine OpsT.cons (Does.yi (Yl.load (d := 61) (T := 9) (v := .string a0.Name) (by kernel_rfl) (ldB ty9 (l := c_ApiEvent a0) (o := 2) (v := .string a0.Name) (pick2 _ _ _) (by kernel_rfl))) hI ?_)
                refine OpsT.pures (r := []) [12, 13, 14, 15] [1, 3, 4, 6, 7] (S' := [(1, .pointer (some ⟨b2, 0, none⟩)), (3, .pointer (some ⟨b9, 0, none⟩)), (4, .int .i64 x10), (6, .bool x14), (7, .bool (seq a0.Name (⟨#[]⟩ : ByteArray)))]) (by kernel_rfl) ?_
                refine OpsT.done ?_
                have e := someS h1
                subst e
                exact Qn.thenJ fun a ha => ⟨seq a0.Name (⟨#[]⟩ : ByteArray), rfl, ha.keep [1, 3, 4, 6, 7] (by kernel_rfl), hI⟩
              · rw [if_neg hb25] at h1
                have hb25 : (!(gt y7 1)) = false := by simpa using hb25
                refine OpsT.keep [1, 3, 4, 6, 55, 59] (S' := [(1, .pointer (some ⟨b2, 0, none⟩)), (3, .pointer (some ⟨b9, 0, none⟩)), (4, .int .i64 x10), (6, .bool x14), (55, .bool false), (59, .bool false)]) (by (try simp only [hb25]); kernel_rfl) ?_
                refine OpsT.pures (r := []) [10, 11, 12, 13, 14, 15] [1, 3, 4, 6, 7] (S' := [(1, .pointer (some ⟨b2, 0, none⟩)), (3, .pointer (some ⟨b9, 0, none⟩)), (4, .int .i64 x10), (6, .bool x14), (7, .bool false)]) (by kernel_rfl) ?_
                refine OpsT.done ?_
                have e := someS h1
                subst e
                exact Qn.thenJ fun a ha => ⟨false, rfl, ha.keep [1, 3, 4, 6, 7] (by kernel_rfl), hI⟩
          ·
            rintro a w ⟨x21, rfl, ha, hI⟩
            try dsimp only at h0
            refine CodT.of ?_ ha
            obtain ⟨r1, h1, h0⟩ := bindS h0
            refine CodT.meet (fun a w => ∃ (x26 : Bool), x26 = r1 ∧ Fr 131 [(1, .pointer (some ⟨b2, 0, none⟩)), (3, .pointer (some ⟨b9, 0, none⟩)), (4, .int .i64 x10), (6, .bool x14), (7, .bool x21), (8, .bool x26)] a ∧ Inv w0 Z w (star (pt b9 (.cells (cA Value.bool y7).toArray 48 (0, 0))) (star (pt b2 (.cells (c_ApiEvent a0).toArray 26 (0, 0))) A))) ?_ ?_
            ·
              refine CodT.regionL [0, 1, 2, 3, 4, 5, 6, 7, 8, 9, 10, 11, 12, 13, 14, 15, 16, 17, 18, 19, 20, 21, 22] (by kernel_rfl) ?_
              refine OpsT.pures (r := [1, 2, 3, 4, 5, 6, 7, 8, 9, 10, 11, 12, 13, 14, 15, 16, 17, 18, 19, 20, 21, 22]) [0] [1, 3, 4, 6, 7, 65] (S' := [(1, .pointer (some ⟨b2, 0, none⟩)), (3, .pointer (some ⟨b9, 0, none⟩)), (4, .int .i64 x10), (6, .bool x14), (7, .bool x21), (65, .pointer (some ⟨b9, 2, none⟩))]) (by kernel_rfl) ?_
              refine OpsT.cons (Does.yi (Yl.load (d := 66) (T := 4) (v := .bool (gt y7 2)) (by kernel_rfl) (ldB ty4 (l := cA Value.bool y7) (o := 2) (v := .bool (gt y7 2)) (ent_refl _) (arr_getC _ _ 2 hl8 (by kernel_rfl)))) hI ?_)
              refine OpsT.pures (r := [3, 4, 5, 6, 7, 8, 9, 10, 11, 12, 13, 14, 15, 16, 17, 18, 19, 20, 21, 22]) [2] [1, 3, 4, 6, 7, 67] (S' := [(1, .pointer (some ⟨b2, 0, none⟩)), (3, .pointer (some ⟨b9, 0, none⟩)), (4, .int .i64 x10), (6, .bool x14), (7, .bool x21), (67, .bool (gt y7 2))]) (by kernel_rfl) ?_
              by_cases hb27 : (gt y7 2) = true
              · rw [if_pos hb27] at h1
                refine OpsT.keep [1, 3, 4, 6, 7, 67] (S' := [(1, .pointer (some ⟨b2, 0, none⟩)), (3, .pointer (some ⟨b9, 0, none⟩)), (4, .int .i64 x10), (6, .bool x14), (7, .bool x21), (67, .bool true)]) (by (try simp only [hb27]); kernel_rfl) ?_
                refine OpsT.pures (r := [4, 5, 6, 7, 8, 9, 10, 11, 12, 13, 14, 15, 16, 17, 18, 19, 20, 21, 22]) [3] [1, 3, 4, 6, 7, 67, 68] (S' := [(1, .pointer (some ⟨b2, 0, none⟩)), (3, .pointer (some ⟨b9, 0, none⟩)), (4, .int .i64 x10), (6, .bool x14), (7, .bool x21), (67, .bool true), (68, .pointer (some ⟨b2, 3, none⟩))]) (by kernel_rfl) ?_
                refine OpsT.cons (Does.yi (Yl.load (d := 69) (T := 3) (v := .int .i64 a0.Time) (by kernel_rfl) (ldB ty3 (l := c_ApiEvent a0) (o := 3) (v := .int .i64 a0.Time) (pick2 _ _ _) (by kernel_rfl))) hI ?_)
                refine OpsT.pures (r := [8, 9, 10, 11, 12, 13, 14, 15, 16, 17, 18, 19, 20, 21, 22]) [5, 6, 7] [1, 3, 4, 6, 7, 72] (S' := [(1, .pointer (some ⟨b2, 0, none⟩)), (3, .pointer (some ⟨b9, 0, none⟩)), (4, .int .i64 x10), (6, .bool x14), (7, .bool x21), (72, .bool (decide (a0.Time ≥ 0)))]) (by kernel_rfl) ?_
                by_cases hb28 : (decide (a0.Time ≥ 0)) = true
                · rw [if_pos hb28] at h1
                  refine OpsT.keep [1, 3, 4, 6, 7, 72] (S' := [(1, .pointer (some ⟨b2, 0, none⟩)), (3, .pointer (some ⟨b9, 0, none⟩)), (4, .int .i64 x10), (6, .bool x14), (7, .bool x21), (72, .bool true)]) (by (try simp only [hb28]); kernel_rfl) ?_
                  refine OpsT.pures (r := [9, 10, 11, 12, 13, 14, 15, 16, 17, 18, 19, 20, 21, 22]) [8] [1, 3, 4, 6, 7, 72, 73] (S' := [(1, .pointer (some ⟨b2, 0, none⟩)), (3, .pointer (some ⟨b9, 0, none⟩)), (4, .int .i64 x10), (6, .bool x14), (7, .bool x21), (72, .bool true), (73, .pointer (some ⟨b2, 3, none⟩))]) (by kernel_rfl) ?_
                  refine OpsT.cons (Does.yi (Yl.load (d := 74) (T := 3) (v := .int .i64 a0.Time) (by kernel_rfl) (ldB ty3 (l := c_ApiEvent a0) (o := 3) (v := .int .i64 a0.Time) (pick2 _ _ _) (by kernel_rfl))) hI ?_)
                  refine OpsT.pures (r := [13, 14, 15, 16, 17, 18, 19, 20, 21, 22]) [10, 11, 12] [1, 3, 4, 6, 7, 77] (S' := [(1, .pointer (some ⟨b2, 0, none⟩)), (3, .pointer (some ⟨b9, 0, none⟩)), (4, .int .i64 x10), (6, .bool x14), (7, .bool x21), (77, .bool (decide (a0.Time ≤ 1099511627776)))]) (by kernel_rfl) ?_
                  by_cases hb29 : (decide (a0.Time ≤ 1099511627776)) = true
                  · rw [if_pos hb29] at h1
                    refine OpsT.keep [1, 3, 4, 6, 7, 77] (S' := [(1, .pointer (some ⟨b2, 0, none⟩)), (3, .pointer (some ⟨b9, 0, none⟩)), (4, .int .i64 x10), (6, .bool x14), (7, .bool x21), (77, .bool true)]) (by (try simp only [hb29]); kernel_rfl) ?_
                    refine OpsT.pures (r := []) [13, 14, 15, 16, 17, 18, 19, 20, 21, 22] [1, 3, 4, 6, 7, 8] (S' := [(1, .pointer (some ⟨b2, 0, none⟩)), (3, .pointer (some ⟨b9, 0, none⟩)), (4, .int .i64 x10), (6, .bool x14), (7, .bool x21), (8, .bool true)]) (by kernel_rfl) ?_
                    refine OpsT.done ?_
                    have e := someS h1
                    subst e
                    exact Qn.thenJ fun a ha => ⟨true, rfl, ha.keep [1, 3, 4, 6, 7, 8] (by kernel_rfl), hI⟩
                  · rw [if_neg hb29] at h1
                    have hb29 : (decide (a0.Time ≤ 1099511627776)) = false := by simpa using hb29
                    refine OpsT.keep [1, 3, 4, 6, 7, 77] (S' := [(1, .pointer (some ⟨b2, 0, none⟩)), (3, .pointer (some ⟨b9, 0, none⟩)), (4, .int .i64 x10), (6, .bool x14), (7, .bool x21), (77, .bool false)]) (by (try simp only [hb29]); kernel_rfl) ?_
                    refine OpsT.pures (r := [14, 15, 16, 17, 18, 19, 20, 21, 22]) [13] [1, 3, 4, 6, 7, 77, 78] (S' := [(1, .pointer (some ⟨b2, 0, none⟩)), (3, .pointer (some ⟨b9, 0, none⟩)), (4, .int .i64 x10), (6, .bool x14), (7, .bool x21), (77, .bool false), (78, .pointer (some ⟨b9, 2, none⟩))]) (by kernel_rfl) ?_
                    refine OpsT.cons (Does.yi (Yl.load (d := 79) (T := 4) (v := .bool (gt y7 2)) (by kernel_rfl) (ldB ty4 (l := cA Value.bool y7) (o := 2) (v := .bool (gt y7 2)) (ent_refl _) (arr_getC _ _ 2 hl8 (by kernel_rfl)))) hI ?_)
                    refine OpsT.pures (r := [17, 18, 19, 20, 21, 22]) [15, 16] [1, 3, 4, 6, 7, 77, 81] (S' := [(1, .pointer (some ⟨b2, 0, none⟩)), (3, .pointer (some ⟨b9, 0, none⟩)), (4, .int .i64 x10), (6, .bool x14), (7, .bool x21), (77, .bool false), (81, .bool (!(gt y7 2)))]) (by kernel_rfl) ?_
                    by_cases hb30 : (!(gt y7 2)) = true
                    · rw [if_pos hb30] at h1
                      refine OpsT.keep [1, 3, 4, 6, 7, 77, 81] (S' := [(1, .pointer (some ⟨b2, 0, none⟩)), (3, .pointer (some ⟨b9, 0, none⟩)), (4, .int .i64 x10), (6, .bool x14), (7, .bool x21), (77, .bool false), (81, .bool true)]) (by (try simp only [hb30]); kernel_rfl) ?_
                      refine OpsT.pures (r := [18, 19, 20, 21, 22]) [17] [1, 3, 4, 6, 7, 77, 81, 82] (S' := [(1, .pointer (some ⟨b2, 0, none⟩)), (3, .pointer (some ⟨b9, 0, none⟩)), (4, .int .i64 x10), (6, .bool x14), (7, .bool x21), (77, .bool false), (81, .bool true), (82, .pointer (some ⟨b2, 3, none⟩))]) (by kernel_rfl) ?_
                      refine OpsT.cons (Does.yi (Yl.load (d := 83) (T := 3) (v := .int .i64 a0.Time) (by kernel_rfl) (ldB ty3 (l := c_ApiEvent a0) (o := 3) (v := .int .i64 a0.Time) (pick2 _ _ _) (by kernel_rfl))) hI ?_)
                      refine OpsT.pures (r := []) [19, 20, 21, 22] [1, 3, 4, 6, 7, 8] (S' := [(1, .pointer (some ⟨b2, 0, none⟩)), (3, .pointer (some ⟨b9, 0, none⟩)), (4, .int .i64 x10), (6, .bool x14), (7, .bool x21), (8, .bool (a0.Time == 0))]) (by kernel_rfl) ?_
                      refine OpsT.done ?_
                      have e := someS h1
                      subst e
                      exact Qn.thenJ fun a ha => ⟨a0.Time == 0, rfl, ha.keep [1, 3, 4, 6, 7, 8] (by kernel_rfl), hI⟩
                    · rw [if_neg hb30] at h1
                      have hb30 : (!(gt y7 2)) = false := by simpa using hb30
                      refine OpsT.keep [1, 3, 4, 6, 7, 77, 81] (S' := [(1, .pointer (some ⟨b2, 0, none⟩)), (3, .pointer (some ⟨b9, 0, none⟩)), (4, .int .i64 x10), (6, .bool x14), (7, .bool x21), (77, .bool false), (81, .bool false)]) (by (try simp only [hb30]); kernel_rfl) ?_
                      refine OpsT.pures (r := []) [17, 18, 19, 20, 21, 22] [1, 3, 4, 6, 7, 8] (S' := [(1, .pointer (some ⟨b2, 0, none⟩)), (3, .pointer (some ⟨b9, 0, none⟩)), (4, .int .i64 x10), (6, .bool x14), (7, .bool x21), (8, .bool false)]) (by kernel_rfl) ?_
                      refine OpsT.done ?_
                      have e := someS h1
                      subst e
                      exact Qn.thenJ fun a ha => ⟨false, rfl, ha.keep [1, 3, 4, 6, 7, 8] (by kernel_rfl), hI⟩
                · rw [if_neg hb28] at h1
                  have hb28 : (decide (a0.Time ≥ 0)) = false := by simpa using hb28
                  refine OpsT.keep [1, 3, 4, 6, 7, 72] (S' := [(1, .pointer (some ⟨b2, 0, none⟩)), (3, .pointer (some ⟨b9, 0, none⟩)), (4, .int .i64 x10), (6, .bool x14), (7, .bool x21), (72, .bool false)]) (by (try simp only [hb28]); kernel_rfl) ?_
                  refine OpsT.pures (r := [14, 15, 16, 17, 18, 19, 20, 21, 22]) [8, 9, 10, 11, 12, 13] [1, 3, 4, 6, 7, 77, 78] (S' := [(1, .pointer (some ⟨b2, 0, none⟩)), (3, .pointer (some ⟨b9, 0, none⟩)), (4, .int .i64 x10), (6, .bool x14), (7, .bool x21), (77, .bool false), (78, .pointer (some ⟨b9, 2, none⟩))]) (by kernel_rfl) ?_
                  refine OpsT.cons (Does.yi (Yl.load (d := 79) (T := 4) (v := .bool (gt y7 2)) (by kernel_rfl) (ldB ty4 (l := cA Value.bool y7) (o := 2) (v := .bool (gt y7 2)) (ent_refl _) (arr_getC _ _ 2 hl8 (by kernel_rfl)))) hI ?_)
                  refine OpsT.pures (r := [17, 18, 19, 20, 21, 22]) [15, 16] [1, 3, 4, 6, 7, 77, 81] (S' := [(1, .pointer (some ⟨b2, 0, none⟩)), (3, .pointer (some ⟨b9, 0, none⟩)), (4, .int .i64 x10), (6, .bool x14), (7, .bool x21), (77, .bool false), (81, .bool (!(gt y7 2)))]) (by kernel_rfl) ?_
                  by_cases hb31 : (!(gt y7 2)) = true
                  · rw [if_pos hb31] at h1
                    refine OpsT.keep [1, 3, 4, 6, 7, 77, 81] (S' := [(1, .pointer (some ⟨b2, 0, none⟩)), (3, .pointer (some ⟨b9, 0, none⟩)), (4, .int .i64 x10), (6, .bool x14), (7, .bool x21), (77, .bool false), (81, .bool true)]) (by (try simp only [hb31]); kernel_rfl) ?_
                    refine OpsT.pures (r := [18, 19, 20, 21, 22]) [17] [1, 3, 4, 6, 7, 77, 81, 82] (S' := [(1, .pointer (some ⟨b2, 0, none⟩)), (3, .pointer (some ⟨b9, 0, none⟩)), (4, .int .i64 x10), (6, .bool x14), (7, .bool x21), (77, .bool false), (81, .bool true), (82, .pointer (some ⟨b2, 3, none⟩))]) (by kernel_rfl) ?_
                    refine OpsT.cons (Does.yi (Yl.load (d := 83) (T := 3) (v := .int .i64 a0.Time) (by kernel_rfl) (ldB ty3 (l := c_ApiEvent a0) (o := 3) (v := .int .i64 a0.Time) (pick2 _ _ _) (by kernel_rfl))) hI ?_)
                    refine OpsT.pures (r := []) [19, 20, 21, 22] [1, 3, 4, 6, 7, 8] (S' := [(1, .pointer (some ⟨b2, 0, none⟩)), (3, .pointer (some ⟨b9, 0, none⟩)), (4, .int .i64 x10), (6, .bool x14), (7, .bool x21), (8, .bool (a0.Time == 0))]) (by kernel_rfl) ?_
                    refine OpsT.done ?_
                    have e := someS h1
                    subst e
                    exact Qn.thenJ fun a ha => ⟨a0.Time == 0, rfl, ha.keep [1, 3, 4, 6, 7, 8] (by kernel_rfl), hI⟩
                  · rw [if_neg hb31] at h1
                    have hb31 : (!(gt y7 2)) = false := by simpa using hb31
                    refine OpsT.keep [1, 3, 4, 6, 7, 77, 81] (S' := [(1, .pointer (some ⟨b2, 0, none⟩)), (3, .pointer (some ⟨b9, 0, none⟩)), (4, .int .i64 x10), (6, .bool x14), (7, .bool x21), (77, .bool false), (81, .bool false)]) (by (try simp only [hb31]); kernel_rfl) ?_
                    refine OpsT.pures (r := []) [17, 18, 19, 20, 21, 22] [1, 3, 4, 6, 7, 8] (S' := [(1, .pointer (some ⟨b2, 0, none⟩)), (3, .pointer (some ⟨b9, 0, none⟩)), (4, .int .i64 x10), (6, .bool x14), (7, .bool x21), (8, .bool false)]) (by kernel_rfl) ?_
                    refine OpsT.done ?_
                    have e := someS h1
                    subst e
                    exact Qn.thenJ fun a ha => ⟨false, rfl, ha.keep [1, 3, 4, 6, 7, 8] (by kernel_rfl), hI⟩
              · rw [if_neg hb27] at h1
                have hb27 : (gt y7 2) = false := by simpa using hb27
                refine OpsT.keep [1, 3, 4, 6, 7, 67] (S' := [(1, .pointer (some ⟨b2, 0, none⟩)), (3, .pointer (some ⟨b9, 0, none⟩)), (4, .int .i64 x10), (6, .bool x14), (7, .bool x21), (67, .bool false)]) (by (try simp only [hb27]); kernel_rfl) ?_
                refine OpsT.pures (r := [14, 15, 16, 17, 18, 19, 20, 21, 22]) [3, 4, 5, 6, 7, 8, 9, 10, 11, 12, 13] [1, 3, 4, 6, 7, 77, 78] (S' := [(1, .pointer (some ⟨b2, 0, none⟩)), (3, .pointer (some ⟨b9, 0, none⟩)), (4, .int .i64 x10), (6, .bool x14), (7, .bool x21), (77, .bool false), (78, .pointer (some ⟨b9, 2, none⟩))]) (by kernel_rfl) ?_
                refine OpsT.cons (Does.yi (Yl.load (d := 79) (T := 4) (v := .bool (gt y7 2)) (by kernel_rfl) (ldB ty4 (l := cA Value.bool y7) (o := 2) (v := .bool (gt y7 2)) (ent_refl _) (arr_getC _ _ 2 hl8 (by kernel_rfl)))) hI ?_)
                refine OpsT.pures (r := [17, 18, 19, 20, 21, 22]) [15, 16] [1, 3, 4, 6, 7, 77, 81] (S' := [(1, .pointer (some ⟨b2, 0, none⟩)), (3, .pointer (some ⟨b9, 0, none⟩)), (4, .int .i64 x10), (6, .bool x14), (7, .bool x21), (77, .bool false), (81, .bool (!(gt y7 2)))]) (by kernel_rfl) ?_
                by_cases hb32 : (!(gt y7 2)) = true
                · rw [if_pos hb32] at h1
                  refine OpsT.keep [1, 3, 4, 6, 7, 77, 81] (S' := [(1, .pointer (some ⟨b2, 0, none⟩)), (3, .pointer (some ⟨b9, 0, none⟩)), (4, .int .i64 x10), (6, .bool x14), (7, .bool x21), (77, .bool false), (81, .bool true)]) (by (try simp only [hb32]); kernel_rfl) ?_
                  refine OpsT.pures (r := [18, 19, 20, 21, 22]) [17] [1, 3, 4, 6, 7, 77, 81, 82] (S' := [(1, .pointer (some ⟨b2, 0, none⟩)), (3, .pointer (some ⟨b9, 0, none⟩)), (4, .int .i64 x10), (6, .bool x14), (7, .bool x21), (77, .bool false), (81, .bool true), (82, .pointer (some ⟨b2, 3, none⟩))]) (by kernel_rfl) ?_
                  refine OpsT.cons (Does.yi (Yl.load (d := 83) (T := 3) (v := .int .i64 a0.Time) (by kernel_rfl) (ldB ty3 (l := c_ApiEvent a0) (o := 3) (v := .int .i64 a0.Time) (pick2 _ _ _) (by kernel_rfl))) hI ?_)
                  refine OpsT.pures (r := []) [19, 20, 21, 22] [1, 3, 4, 6, 7, 8] (S' := [(1, .pointer (some ⟨b2, 0, none⟩)), (3, .pointer (some ⟨b9, 0, none⟩)), (4, .int .i64 x10), (6, .bool x14), (7, .bool x21), (8, .bool (a0.Time == 0))]) (by kernel_rfl) ?_
                  refine OpsT.done ?_
                  have e := someS h1
                  subst e
                  exact Qn.thenJ fun a ha => ⟨a0.Time == 0, rfl, ha.keep [1, 3, 4, 6, 7, 8] (by kernel_rfl), hI⟩
                · rw [if_neg hb32] at h1
                  have hb32 : (!(gt y7 2)) = false := by simpa using hb32
                  refine OpsT.keep [1, 3, 4, 6, 7, 77, 81] (S' := [(1, .pointer (some ⟨b2, 0, none⟩)), (3, .pointer (some ⟨b9, 0, none⟩)), (4, .int .i64 x10), (6, .bool x14), (7, .bool x21), (77, .bool false), (81, .bool false)]) (by (try simp only [hb32]); kernel_rfl) ?_
                  refine OpsT.pures (r := []) [17, 18, 19, 20, 21, 22] [1, 3, 4, 6, 7, 8] (S' := [(1, .pointer (some ⟨b2, 0, none⟩)), (3, .pointer (some ⟨b9, 0, none⟩)), (4, .int .i64 x10), (6, .bool x14), (7, .bool x21), (8, .bool false)]) (by kernel_rfl) ?_
                  refine OpsT.done ?_
                  have e := someS h1
                  subst e
                  exact Qn.thenJ fun a ha => ⟨false, rfl, ha.keep [1, 3, 4, 6, 7, 8] (by kernel_rfl), hI⟩
            ·
              rintro a w ⟨x26, rfl, ha, hI⟩
              try dsimp only at h0
              refine CodT.of ?_ ha
              obtain ⟨r1, h1, h0⟩ := bindS h0
              refine CodT.meet (fun a w => ∃ (x33 : Bool), x33 = r1 ∧ Fr 131 [(1, .pointer (some ⟨b2, 0, none⟩)), (3, .pointer (some ⟨b9, 0, none⟩)), (6, .bool x14), (7, .bool x21), (8, .bool x26), (9, .bool x33)] a ∧ Inv w0 Z w (star (pt b9 (.cells (cA Value.bool y7).toArray 48 (0, 0))) (star (pt b2 (.cells (c_ApiEvent a0).toArray 26 (0, 0))) A))) ?_ ?_
              ·
                refine CodT.regionL [0, 1, 2, 3, 4, 5, 6, 7, 8, 9, 10, 11, 12, 13, 14, 15, 16, 17, 18, 19, 20, 21, 22, 23] (by kernel_rfl) ?_
                refine OpsT.pures (r := [1, 2, 3, 4, 5, 6, 7, 8, 9, 10, 11, 12, 13, 14, 15, 16, 17, 18, 19, 20, 21, 22, 23]) [0] [1, 3, 4, 6, 7, 8, 87] (S' := [(1, .pointer (some ⟨b2, 0, none⟩)), (3, .pointer (some ⟨b9, 0, none⟩)), (4, .int .i64 x10), (6, .bool x14), (7, .bool x21), (8, .bool x26), (87, .pointer (some ⟨b9, 3, none⟩))]) (by kernel_rfl) ?_
                refine OpsT.cons (Does.yi (Yl.load (d := 88) (T := 4) (v := .bool (gt y7 3)) (by kernel_rfl) (ldB ty4 (l := cA Value.bool y7) (o := 3) (v := .bool (gt y7 3)) (ent_refl _) (arr_getC _ _ 3 hl8 (by kernel_rfl)))) hI ?_)
                refine OpsT.pures (r := [3, 4, 5, 6, 7, 8, 9, 10, 11, 12, 13, 14, 15, 16, 17, 18, 19, 20, 21, 22, 23]) [2] [1, 3, 4, 6, 7, 8, 89] (S' := [(1, .pointer (some ⟨b2, 0, none⟩)), (3, .pointer (some ⟨b9, 0, none⟩)), (4, .int .i64 x10), (6, .bool x14), (7, .bool x21), (8, .bool x26), (89, .bool (gt y7 3))]) (by kernel_rfl) ?_
                by_cases hb34 : (gt y7 3) = true
                · rw [if_pos hb34] at h1
                  refine OpsT.keep [1, 3, 4, 6, 7, 8, 89] (S' := [(1, .pointer (some ⟨b2, 0, none⟩)), (3, .pointer (some ⟨b9, 0, none⟩)), (4, .int .i64 x10), (6, .bool x14), (7, .bool x21), (8, .bool x26), (89, .bool true)]) (by (try simp only [hb34]); kernel_rfl) ?_
                  refine OpsT.pures (r := [4, 5, 6, 7, 8, 9, 10, 11, 12, 13, 14, 15, 16, 17, 18, 19, 20, 21, 22, 23]) [3] [1, 3, 4, 6, 7, 8, 89, 90] (S' := [(1, .pointer (some ⟨b2, 0, none⟩)), (3, .pointer (some ⟨b9, 0, none⟩)), (4, .int .i64 x10), (6, .bool x14), (7, .bool x21), (8, .bool x26), (89, .bool true), (90, .pointer (some ⟨b2, 4, none⟩))]) (by kernel_rfl) ?_
                  refine OpsT.cons (Does.yi (Yl.load (d := 91) (T := 3) (v := .int .i64 a0.Len) (by kernel_rfl) (ldB ty3 (l := c_ApiEvent a0) (o := 4) (v := .int .i64 a0.Len) (pick2 _ _ _) (by kernel_rfl))) hI ?_)
                  refine OpsT.pures (r := [9, 10, 11, 12, 13, 14, 15, 16, 17, 18, 19, 20, 21, 22, 23]) [5, 6, 7, 8] [1, 3, 6, 7, 8, 95] (S' := [(1, .pointer (some ⟨b2, 0, none⟩)), (3, .pointer (some ⟨b9, 0, none⟩)), (6, .bool x14), (7, .bool x21), (8, .bool x26), (95, .bool (decide (a0.Len ≥ x10)))]) (by kernel_rfl) ?_
                  by_cases hb35 : (decide (a0.Len ≥ x10)) = true
                  · rw [if_pos hb35] at h1
                    refine OpsT.keep [1, 3, 6, 7, 8, 95] (S' := [(1, .pointer (some ⟨b2, 0, none⟩)), (3, .pointer (some ⟨b9, 0, none⟩)), (6, .bool x14), (7, .bool x21), (8, .bool x26), (95, .bool true)]) (by (try simp only [hb35]); kernel_rfl) ?_
                    refine OpsT.pures (r := [10, 11, 12, 13, 14, 15, 16, 17, 18, 19, 20, 21, 22, 23]) [9] [1, 3, 6, 7, 8, 95, 96] (S' := [(1, .pointer (some ⟨b2, 0, none⟩)), (3, .pointer (some ⟨b9, 0, none⟩)), (6, .bool x14), (7, .bool x21), (8, .bool x26), (95, .bool true), (96, .pointer (some ⟨b2, 4, none⟩))]) (by kernel_rfl) ?_
                    refine OpsT.cons (Does.yi (Yl.load (d := 97) (T := 3) (v := .int .i64 a0.Len) (by kernel_rfl) (ldB ty3 (l := c_ApiEvent a0) (o := 4) (v := .int .i64 a0.Len) (pick2 _ _ _) (by kernel_rfl))) hI ?_)
                    refine OpsT.pures (r := [14, 15, 16, 17, 18, 19, 20, 21, 22, 23]) [11, 12, 13] [1, 3, 6, 7, 8, 100] (S' := [(1, .pointer (some ⟨b2, 0, none⟩)), (3, .pointer (some ⟨b9, 0, none⟩)), (6, .bool x14), (7, .bool x21), (8, .bool x26), (100, .bool (decide (a0.Len ≤ 600)))]) (by kernel_rfl) ?_
                    by_cases hb36 : (decide (a0.Len ≤ 600)) = true
                    · rw [if_pos hb36] at h1
                      refine OpsT.keep [1, 3, 6, 7, 8, 100] (S' := [(1, .pointer (some ⟨b2, 0, none⟩)), (3, .pointer (some ⟨b9, 0, none⟩)), (6, .bool x14), (7, .bool x21), (8, .bool x26), (100, .bool true)]) (by (try simp only [hb36]); kernel_rfl) ?_
                      refine OpsT.pures (r := []) [14, 15, 16, 17, 18, 19, 20, 21, 22, 23] [1, 3, 6, 7, 8, 9] (S' := [(1, .pointer (some ⟨b2, 0, none⟩)), (3, .pointer (some ⟨b9, 0, none⟩)), (6, .bool x14), (7, .bool x21), (8, .bool x26), (9, .bool true)]) (by kernel_rfl) ?_
                      refine OpsT.done ?_
                      have e := someS h1
                      subst e
                      exact Qn.thenJ fun a ha => ⟨true, rfl, ha.keep [1, 3, 6, 7, 8, 9] (by kernel_rfl), hI⟩
                    · rw [if_neg hb36] at h1
                      have hb36 : (decide (a0.Len ≤ 600)) = false := by simpa using hb36
                      refine OpsT.keep [1, 3, 6, 7, 8, 100] (S' := [(1, .pointer (some ⟨b2, 0, none⟩)), (3, .pointer (some ⟨b9, 0, none⟩)), (6, .bool x14), (7, .bool x21), (8, .bool x26), (100, .bool false)]) (by (try simp only [hb36]); kernel_rfl) ?_
                      refine OpsT.pures (r := [15, 16, 17, 18, 19, 20, 21, 22, 23]) [14] [1, 3, 6, 7, 8, 100, 101] (S' := [(1, .pointer (some ⟨b2, 0, none⟩)), (3, .pointer (some ⟨b9, 0, none⟩)), (6, .bool x14), (7, .bool x21), (8, .bool x26), (100, .bool false), (101, .pointer (some ⟨b9, 3, none⟩))]) (by kernel_rfl) ?_
                      refine OpsT.cons (Does.yi (Yl.load (d := 102) (T := 4) (v := .bool (gt y7 3)) (by kernel_rfl) (ldB ty4 (l := cA Value.bool y7) (o := 3) (v := .bool (gt y7 3)) (ent_refl _) (arr_getC _ _ 3 hl8 (by kernel_rfl)))) hI ?_)
                      refine OpsT.pures (r := [18, 19, 20, 21, 22, 23]) [16, 17] [1, 3, 6, 7, 8, 100, 104] (S' := [(1, .pointer (some ⟨b2, 0, none⟩)), (3, .pointer (some ⟨b9, 0, none⟩)), (6, .bool x14), (7, .bool x21), (8, .bool x26), (100, .bool false), (104, .bool (!(gt y7 3)))]) (by kernel_rfl) ?_
                      by_cases hb37 : (!(gt y7 3)) = true
                      · rw [if_pos hb37] at h1
                        refine OpsT.keep [1, 3, 6, 7, 8, 100, 104] (S' := [(1, .pointer (some ⟨b2, 0, none⟩)), (3, .pointer (some ⟨b9, 0, none⟩)), (6, .bool x14), (7, .bool x21), (8, .bool x26), (100, .bool false), (104, .bool true)]) (by (try simp only [hb37]); kernel_rfl) ?_
                        refine OpsT.pures (r := [19, 20, 21, 22, 23]) [18] [1, 3, 6, 7, 8, 100, 104, 105] (S' := [(1, .pointer (some ⟨b2, 0, none⟩)), (3, .pointer (some ⟨b9, 0, none⟩)), (6, .bool x14), (7, .bool x21), (8, .bool x26), (100, .bool false), (104, .bool true), (105, .pointer (some ⟨b2, 4, none⟩))]) (by kernel_rfl) ?_
                        refine OpsT.cons (Does.yi (Yl.load (d := 106) (T := 3) (v := .int .i64 a0.Len) (by kernel_rfl) (ldB ty3 (l := c_ApiEvent a0) (o := 4) (v := .int .i64 a0.Len) (pick2 _ _ _) (by kernel_rfl))) hI ?_)
                        refine OpsT.pures (r := []) [20, 21, 22, 23] [1, 3, 6, 7, 8, 9] (S' := [(1, .pointer (some ⟨b2, 0, none⟩)), (3, .pointer (some ⟨b9, 0, none⟩)), (6, .bool x14), (7, .bool x21), (8, .bool x26), (9, .bool (a0.Len == 0))]) (by kernel_rfl) ?_
                        refine OpsT.done ?_
                        have e := someS h1
                        subst e
                        exact Qn.thenJ fun a ha => ⟨a0.Len == 0, rfl, ha.keep [1, 3, 6, 7, 8, 9] (by kernel_rfl), hI⟩
                      · rw [if_neg hb37] at h1
                        have hb37 : (!(gt y7 3)) = false := by simpa using hb37
                        refine OpsT.keep [1, 3, 6, 7, 8, 100, 104] (S' := [(1, .pointer (some ⟨b2, 0, none⟩)), (3, .pointer (some ⟨b9, 0, none⟩)), (6, .bool x14), (7, .bool x21), (8, .bool x26), (100, .bool false), (104, .bool false)]) (by (try simp only [hb37]); kernel_rfl) ?_
                        refine OpsT.pures (r := []) [18, 19, 20, 21, 22, 23] [1, 3, 6, 7, 8, 9] (S' := [(1, .pointer (some ⟨b2, 0, none⟩)), (3, .pointer (some ⟨b9, 0, none⟩)), (6, .bool x14), (7, .bool x21), (8, .bool x26), (9, .bool false)]) (by kernel_rfl) ?_
                        refine OpsT.done ?_
                        have e := someS h1
                        subst e
                        exact Qn.thenJ fun a ha => ⟨false, rfl, ha.keep [1, 3, 6, 7, 8, 9] (by kernel_rfl), hI⟩
                  · rw [if_neg hb35] at h1
                    have hb35 : (decide (a0.Len ≥ x10)) = false := by simpa using hb35
                    refine OpsT.keep [1, 3, 6, 7, 8, 95] (S' := [(1, .pointer (some ⟨b2, 0, none⟩)), (3, .pointer (some ⟨b9, 0, none⟩)), (6, .bool x14), (7, .bool x21), (8, .bool x26), (95, .bool false)]) (by (try simp only [hb35]); kernel_rfl) ?_
                    refine OpsT.pures (r := [15, 16, 17, 18, 19, 20, 21, 22, 23]) [9, 10, 11, 12, 13, 14] [1, 3, 6, 7, 8, 100, 101] (S' := [(1, .pointer (some ⟨b2, 0, none⟩)), (3, .pointer (some ⟨b9, 0, none⟩)), (6, .bool x14), (7, .bool x21), (8, .bool x26), (100, .bool false), (101, .pointer (some ⟨b9, 3, none⟩))]) (by kernel_rfl) ?_
                    refine OpsT.cons (Does.yi (Yl.load (d := 102) (T := 4) (v := .bool (gt y7 3)) (by kernel_rfl) (ldB ty4 (l := cA Value.bool y7) (o := 3) (v := .bool (gt y7 3)) (ent_refl _) (arr_getC _ _ 3 hl8 (by kernel_rfl)))) hI ?_)
                    refine OpsT.pures (r := [18, 19, 20, 21, 22, 23]) [16, 17] [1, 3, 6, 7, 8, 100, 104] (S' := [(1, .pointer (some ⟨b2, 0, none⟩)), (3, .pointer (some ⟨b9, 0, none⟩)), (6, .bool x14), (7, .bool x21), (8, .bool x26), (100, .bool false), (104, .bool (!(gt y7 3)))]) (by kernel_rfl) ?_
                    by_cases hb38 : (!(gt y7 3)) = true
                    · rw [if_pos hb38] at h1
                      refine OpsT.keep [1, 3, 6, 7, 8, 100, 104] (S' := [(1, .pointer (some ⟨b2, 0, none⟩)), (3, .pointer (some ⟨b9, 0, none⟩)), (6, .bool x14), (7, .bool x21), (8, .bool x26), (100, .bool false), (104, .bool true)]) (by (try simp only [hb38]); kernel_rfl) ?_
                      refine OpsT.pures (r := [19, 20, 21, 22, 23]) [18] [1, 3, 6, 7, 8, 100, 104, 105] (S' := [(1, .pointer (some ⟨b2, 0, none⟩)), (3, .pointer (some ⟨b9, 0, none⟩)), (6, .bool x14), (7, .bool x21), (8, .bool x26), (100, .bool false), (104, .bool true), (105, .pointer (some ⟨b2, 4, none⟩))]) (by kernel_rfl) ?_
                      refine OpsT.cons (Does.yi (Yl.load (d := 106) (T := 3) (v := .int .i64 a0.Len) (by kernel_rfl) (ldB ty3 (l := c_ApiEvent a0) (o := 4) (v := .int .i64 a0.Len) (pick2 _ _ _) (by kernel_rfl))) hI ?_)
                      refine OpsT.pures (r := []) [20, 21, 22, 23] [1, 3, 6, 7, 8, 9] (S' := [(1, .pointer (some ⟨b2, 0, none⟩)), (3, .pointer (some ⟨b9, 0, none⟩)), (6, .bool x14), (7, .bool x21), (8, .bool x26), (9, .bool (a0.Len == 0))]) (by kernel_rfl) ?_
                      refine OpsT.done ?_
                      have e := someS h1
                      subst e
                      exact Qn.thenJ fun a ha => ⟨a0.Len == 0, rfl, ha.keep [1, 3, 6, 7, 8, 9] (by kernel_rfl), hI⟩
                    · rw [if_neg hb38] at h1
                      have hb38 : (!(gt y7 3)) = false := by simpa using hb38
                      refine OpsT.keep [1, 3, 6, 7, 8, 100, 104] (S' := [(1, .pointer (some ⟨b2, 0, none⟩)), (3, .pointer (some ⟨b9, 0, none⟩)), (6, .bool x14), (7, .bool x21), (8, .bool x26), (100, .bool false), (104, .bool false)]) (by (try simp only [hb38]); kernel_rfl) ?_
                      refine OpsT.pures (r := []) [18, 19, 20, 21, 22, 23] [1, 3, 6, 7, 8, 9] (S' := [(1, .pointer (some ⟨b2, 0, none⟩)), (3, .pointer (some ⟨b9, 0, none⟩)), (6, .bool x14), (7, .bool x21), (8, .bool x26), (9, .bool false)]) (by kernel_rfl) ?_
                      refine OpsT.done ?_
                      have e := someS h1
                      subst e
                      exact Qn.thenJ fun a ha => ⟨false, rfl, ha.keep [1, 3, 6, 7, 8, 9] (by kernel_rfl), hI⟩
                · rw [if_neg hb34] at h1
                  have hb34 : (gt y7 3) = false := by simpa using hb34
                  refine OpsT.keep [1, 3, 4, 6, 7, 8, 89] (S' := [(1, .pointer (some ⟨b2, 0, none⟩)), (3, .pointer (some ⟨b9, 0, none⟩)), (4, .int .i64 x10), (6, .bool x14), (7, .bool x21), (8, .bool x26), (89, .bool false)]) (by (try simp only [hb34]); kernel_rfl) ?_
                  refine OpsT.pures (r := [15, 16, 17, 18, 19, 20, 21, 22, 23]) [3, 4, 5, 6, 7, 8, 9, 10, 11, 12, 13, 14] [1, 3, 6, 7, 8, 100, 101] (S' := [(1, .pointer (some ⟨b2, 0, none⟩)), (3, .pointer (some ⟨b9, 0, none⟩)), (6, .bool x14), (7, .bool x21), (8, .bool x26), (100, .bool false), (101, .pointer (some ⟨b9, 3, none⟩))]) (by kernel_rfl) ?_
                  refine OpsT.cons (Does.yi (Yl.load (d := 102) (T := 4) (v := .bool (gt y7 3)) (by kernel_rfl) (ldB ty4 (l := cA Value.bool y7) (o := 3) (v := .bool (gt y7 3)) (ent_refl _) (arr_getC _ _ 3 hl8 (by kernel_rfl)))) hI ?_)
                  refine OpsT.pures (r := [18, 19, 20, 21, 22, 23]) [16, 17] [1, 3, 6, 7, 8, 100, 104] (S' := [(1, .pointer (some ⟨b2, 0, none⟩)), (3, .pointer (some ⟨b9, 0, none⟩)), (6, .bool x14), (7, .bool x21), (8, .bool x26), (100, .bool false), (104, .bool (!(gt y7 3)))]) (by kernel_rfl) ?_
                  by_cases hb39 : (!(gt y7 3)) = true
                  · rw [if_pos hb39] at h1
                    refine OpsT.keep [1, 3, 6, 7, 8, 100, 104] (S' := [(1, .pointer (some ⟨b2, 0, none⟩)), (3, .pointer (some ⟨b9, 0, none⟩)), (6, .bool x14), (7, .bool x21), (8, .bool x26), (100, .bool false), (104, .bool true)]) (by (try simp only [hb39]); kernel_rfl) ?_
                    refine OpsT.pures (r := [19, 20, 21, 22, 23]) [18] [1, 3, 6, 7, 8, 100, 104, 105] (S' := [(1, .pointer (some ⟨b2, 0, none⟩)), (3, .pointer (some ⟨b9, 0, none⟩)), (6, .bool x14), (7, .bool x21), (8, .bool x26), (100, .bool false), (104, .bool true), (105, .pointer (some ⟨b2, 4, none⟩))]) (by kernel_rfl) ?_
                    refine OpsT.cons (Does.yi (Yl.load (d := 106) (T := 3) (v := .int .i64 a0.Len) (by kernel_rfl) (ldB ty3 (l := c_ApiEvent a0) (o := 4) (v := .int .i64 a0.Len) (pick2 _ _ _) (by kernel_rfl))) hI ?_)
                    refine OpsT.pures (r := []) [20, 21, 22, 23] [1, 3, 6, 7, 8, 9] (S' := [(1, .pointer (some ⟨b2, 0, none⟩)), (3, .pointer (some ⟨b9, 0, none⟩)), (6, .bool x14), (7, .bool x21), (8, .bool x26), (9, .bool (a0.Len == 0))]) (by kernel_rfl) ?_
                    refine OpsT.done ?_
                    have e := someS h1
                    subst e
                    exact Qn.thenJ fun a ha => ⟨a0.Len == 0, rfl, ha.keep [1, 3, 6, 7, 8, 9] (by kernel_rfl), hI⟩
                  · rw [if_neg hb39] at h1
                    have hb39 : (!(gt y7 3)) = false := by simpa using hb39
                    refine OpsT.keep [1, 3, 6, 7, 8, 100, 104] (S' := [(1, .pointer (some ⟨b2, 0, none⟩)), (3, .pointer (some ⟨b9, 0, none⟩)), (6, .bool x14), (7, .bool x21), (8, .bool x26), (100, .bool false), (104, .bool false)]) (by (try simp only [hb39]); kernel_rfl) ?_
                    refine OpsT.pures (r := []) [18, 19, 20, 21, 22, 23] [1, 3, 6, 7, 8, 9] (S' := [(1, .pointer (some ⟨b2, 0, none⟩)), (3, .pointer (some ⟨b9, 0, none⟩)), (6, .bool x14), (7, .bool x21), (8, .bool x26), (9, .bool false)]) (by kernel_rfl) ?_
                    refine OpsT.done ?_
                    have e := someS h1
                    subst e
                    exact Qn.thenJ fun a ha => ⟨false, rfl, ha.keep [1, 3, 6, 7, 8, 9] (by kernel_rfl), hI⟩
              ·
                rintro a w ⟨x33, rfl, ha, hI⟩
                try dsimp only at h0
                refine CodT.of ?_ ha
                obtain ⟨r1, h1, h0⟩ := bindS h0
                refine CodT.meet (fun a w => ∃ (x40 : Bool), x40 = r1 ∧ Fr 131 [(6, .bool x14), (7, .bool x21), (8, .bool x26), (9, .bool x33), (10, .bool x40)] a ∧ Inv w0 Z w A) ?_ ?_
                ·
                  refine CodT.regionL [0, 1, 2, 3, 4, 5, 6, 7, 8] (by kernel_rfl) ?_
                  refine OpsT.pures (r := [1, 2, 3, 4, 5, 6, 7, 8]) [0] [1, 6, 7, 8, 9, 110] (S' := [(1, .pointer (some ⟨b2, 0, none⟩)), (6, .bool x14), (7, .bool x21), (8, .bool x26), (9, .bool x33), (110, .pointer (some ⟨b9, 4, none⟩))]) (by kernel_rfl) ?_
                  refine OpsT.cons (Does.yi (Yl.load (d := 111) (T := 4) (v := .bool (gt y7 4)) (by kernel_rfl) (ldB ty4 (l := cA Value.bool y7) (o := 4) (v := .bool (gt y7 4)) (ent_refl _) (arr_getC _ _ 4 hl8 (by kernel_rfl)))) hI ?_)
                  refine OpsT.pures (r := [3, 4, 5, 6, 7, 8]) [2] [1, 6, 7, 8, 9, 112] (S' := [(1, .pointer (some ⟨b2, 0, none⟩)), (6, .bool x14), (7, .bool x21), (8, .bool x26), (9, .bool x33), (112, .bool (gt y7 4))]) (by kernel_rfl) ?_
                  by_cases hb41 : (gt y7 4) = true
                  · rw [if_pos hb41] at h1
                    refine OpsT.keep [1, 6, 7, 8, 9, 112] (S' := [(1, .pointer (some ⟨b2, 0, none⟩)), (6, .bool x14), (7, .bool x21), (8, .bool x26), (9, .bool x33), (112, .bool true)]) (by (try simp only [hb41]); kernel_rfl) ?_
                    refine OpsT.pures (r := []) [3, 4, 5, 6, 7, 8] [6, 7, 8, 9, 10] (S' := [(6, .bool x14), (7, .bool x21), (8, .bool x26), (9, .bool x33), (10, .bool true)]) (by kernel_rfl) ?_
                    refine OpsT.done ?_
                    have hI := hI.drop
                    have hI := hI.drop
                    have e := someS h1
                    subst e
                    exact Qn.thenJ fun a ha => ⟨true, rfl, ha.keep [6, 7, 8, 9, 10] (by kernel_rfl), hI⟩
                  · rw [if_neg hb41] at h1
                    have hb41 : (gt y7 4) = false := by simpa using hb41
                    refine OpsT.keep [1, 6, 7, 8, 9, 112] (S' := [(1, .pointer (some ⟨b2, 0, none⟩)), (6, .bool x14), (7, .bool x21), (8, .bool x26), (9, .bool x33), (112, .bool false)]) (by (try simp only [hb41]); kernel_rfl) ?_
                    refine OpsT.pures (r := [4, 5, 6, 7, 8]) [3] [6, 7, 8, 9, 112, 113] (S' := [(6, .bool x14), (7, .bool x21), (8, .bool x26), (9, .bool x33), (112, .bool false), (113, .pointer (some ⟨b2, 5, none⟩))]) (by kernel_rfl) ?_
                    refine OpsT.cons (Does.yi (Yl.load (d := 114) (T := 24) (v := .agg (cA (Value.int .u8) a0.Sum).toArray) (by kernel_rfl) (ldBN ty24 (l := c_ApiEvent a0) (o := 5) (cs := cA (Value.int .u8) a0.Sum) (pick2 _ _ _) ((cA_length _ _).trans hl1) (tail_take _ _ _ _ _ (by kernel_rfl) hl1))) hI ?_)
                    refine OpsT.pures (r := [6, 7, 8]) [5] [6, 7, 8, 9, 112, 114, 115] (S' := [(6, .bool x14), (7, .bool x21), (8, .bool x26), (9, .bool x33), (112, .bool false), (114, .agg (cA (Value.int .u8) a0.Sum).toArray), (115, .agg (cA (Value.int .u8) ([0, 0, 0, 0, 0, 0, 0, 0, 0, 0, 0, 0, 0, 0, 0, 0, 0, 0, 0, 0, 0, 0, 0, 0, 0, 0, 0, 0, 0, 0, 0, 0] : List Int)).toArray)]) (by kernel_rfl) ?_
                    refine OpsT.cons (Does.yi (Yl.eqlA (k := .u8) (d := 116) (T := 24) (xs := a0.Sum) (ys := ([0, 0, 0, 0, 0, 0, 0, 0, 0, 0, 0, 0, 0, 0, 0, 0, 0, 0, 0, 0, 0, 0, 0, 0, 0, 0, 0, 0, 0, 0, 0, 0] : List Int)) (by kernel_rfl) Go.Proofs.Try.underlying24 (by kernel_rfl) Go.Proofs.Try.underlying5 ty5 hl1 (by kernel_rfl)) hI ?_)
                    refine OpsT.pures (r := []) [7, 8] [6, 7, 8, 9, 10] (S' := [(6, .bool x14), (7, .bool x21), (8, .bool x26), (9, .bool x33), (10, .bool (eqA a0.Sum ([0, 0, 0, 0, 0, 0, 0, 0, 0, 0, 0, 0, 0, 0, 0, 0, 0, 0, 0, 0, 0, 0, 0, 0, 0, 0, 0, 0, 0, 0, 0, 0] : List Int)))]) (by kernel_rfl) ?_
                    refine OpsT.done ?_
                    have hI := hI.drop
                    have hI := hI.drop
                    have e := someS h1
                    subst e
                    exact Qn.thenJ fun a ha => ⟨eqA a0.Sum ([0, 0, 0, 0, 0, 0, 0, 0, 0, 0, 0, 0, 0, 0, 0, 0, 0, 0, 0, 0, 0, 0, 0, 0, 0, 0, 0, 0, 0, 0, 0, 0] : List Int), rfl, ha.keep [6, 7, 8, 9, 10] (by kernel_rfl), hI⟩
                ·
                  rintro a w ⟨x40, rfl, ha, hI⟩
                  try dsimp only at h0
                  refine CodT.of ?_ ha
                  obtain ⟨r1, h1, h0⟩ := bindS h0
                  refine CodT.meet (fun a w => ∃ (x42 : Bool), x42 = r1 ∧ Fr 131 [(2, .bool x42)] a ∧ Inv w0 Z w A) ?_ ?_
                  ·
                    refine CodT.regionL [0, 1, 2, 3, 4, 5, 6, 7, 8, 9, 10, 11, 12, 13] (by kernel_rfl) ?_
                    refine OpsT.pures (r := [2, 3, 4, 5, 6, 7, 8, 9, 10, 11, 12, 13]) [0, 1] [7, 8, 9, 10, 119] (S' := [(7, .bool x21), (8, .bool x26), (9, .bool x33), (10, .bool x40), (119, .bool x14)]) (by kernel_rfl) ?_
                    by_cases hb43 : x14 = true
                    · rw [if_pos hb43] at h1
                      refine OpsT.keep [7, 8, 9, 10, 119] (S' := [(7, .bool x21), (8, .bool x26), (9, .bool x33), (10, .bool x40), (119, .bool true)]) (by (try simp only [hb43]); kernel_rfl) ?_
                      refine OpsT.pures (r := [5, 6, 7, 8, 9, 10, 11, 12, 13]) [2, 3, 4] [8, 9, 10, 122] (S' := [(8, .bool x26), (9, .bool x33), (10, .bool x40), (122, .bool x21)]) (by kernel_rfl) ?_
                      by_cases hb44 : x21 = true
                      · rw [if_pos hb44] at h1
                        refine OpsT.keep [8, 9, 10, 122] (S' := [(8, .bool x26), (9, .bool x33), (10, .bool x40), (122, .bool true)]) (by (try simp only [hb44]); kernel_rfl) ?_
                        refine OpsT.pures (r := [8, 9, 10, 11, 12, 13]) [5, 6, 7] [9, 10, 125] (S' := [(9, .bool x33), (10, .bool x40), (125, .bool x26)]) (by kernel_rfl) ?_
                        by_cases hb45 : x26 = true
                        · rw [if_pos hb45] at h1
                          refine OpsT.keep [9, 10, 125] (S' := [(9, .bool x33), (10, .bool x40), (125, .bool true)]) (by (try simp only [hb45]); kernel_rfl) ?_
                          refine OpsT.pures (r := [11, 12, 13]) [8, 9, 10] [10, 128] (S' := [(10, .bool x40), (128, .bool x33)]) (by kernel_rfl) ?_
                          by_cases hb46 : x33 = true
                          · rw [if_pos hb46] at h1
                            refine OpsT.keep [10, 128] (S' := [(10, .bool x40), (128, .bool true)]) (by (try simp only [hb46]); kernel_rfl) ?_
                            refine OpsT.pures (r := []) [11, 12, 13] [2] (S' := [(2, .bool x40)]) (by kernel_rfl) ?_
                            refine OpsT.done ?_
                            have e := someS h1
                            subst e
                            exact Qn.thenJ fun a ha => ⟨x40, rfl, ha.keep [2] (by kernel_rfl), hI⟩
                          · rw [if_neg hb46] at h1
                            have hb46 : x33 = false := by simpa using hb46
                            refine OpsT.keep [10, 128] (S' := [(10, .bool x40), (128, .bool false)]) (by (try simp only [hb46]); kernel_rfl) ?_
                            refine OpsT.pures (r := []) [11, 12, 13] [2] (S' := [(2, .bool false)]) (by kernel_rfl) ?_
                            refine OpsT.done ?_
                            have e := someS h1
                            subst e
                            exact Qn.thenJ fun a ha => ⟨false, rfl, ha.keep [2] (by kernel_rfl), hI⟩
                        · rw [if_neg hb45] at h1
                          have hb45 : x26 = false := by simpa using hb45
                          refine OpsT.keep [9, 10, 125] (S' := [(9, .bool x33), (10, .bool x40), (125, .bool false)]) (by (try simp only [hb45]); kernel_rfl) ?_
                          refine OpsT.pures (r := []) [8, 9, 10, 11, 12, 13] [2] (S' := [(2, .bool false)]) (by kernel_rfl) ?_
                          refine OpsT.done ?_
                          have e := someS h1
                          subst e
                          exact Qn.thenJ fun a ha => ⟨false, rfl, ha.keep [2] (by kernel_rfl), hI⟩
                      · rw [if_neg hb44] at h1
                        have hb44 : x21 = false := by simpa using hb44
                        refine OpsT.keep [8, 9, 10, 122] (S' := [(8, .bool x26), (9, .bool x33), (10, .bool x40), (122, .bool false)]) (by (try simp only [hb44]); kernel_rfl) ?_
                        refine OpsT.pures (r := []) [5, 6, 7, 8, 9, 10, 11, 12, 13] [2] (S' := [(2, .bool false)]) (by kernel_rfl) ?_
                        refine OpsT.done ?_
                        have e := someS h1
                        subst e
                        exact Qn.thenJ fun a ha => ⟨false, rfl, ha.keep [2] (by kernel_rfl), hI⟩
                    · rw [if_neg hb43] at h1
                      have hb43 : x14 = false := by simpa using hb43
                      refine OpsT.keep [7, 8, 9, 10, 119] (S' := [(7, .bool x21), (8, .bool x26), (9, .bool x33), (10, .bool x40), (119, .bool false)]) (by (try simp only [hb43]); kernel_rfl) ?_
                      refine OpsT.pures (r := []) [2, 3, 4, 5, 6, 7, 8, 9, 10, 11, 12, 13] [2] (S' := [(2, .bool false)]) (by kernel_rfl) ?_
                      refine OpsT.done ?_
                      have e := someS h1
                      subst e
                      exact Qn.thenJ fun a ha => ⟨false, rfl, ha.keep [2] (by kernel_rfl), hI⟩
                  ·
                    rintro a w ⟨x42, rfl, ha, hI⟩
                    try dsimp only at h0
                    refine CodT.of ?_ ha
                    refine CodT.ret ?_
                    have e := someS h0
                    subst e
                    refine Qn.keep [2] (S' := [(2, .bool x42)]) (by kernel_rfl) ?_
                    exact post_ret (v := .bool x42) (fun a ha => RunRes.run (vs := [.bool x42]) (.tmp (t := 2) (by kernel_rfl) .nil) ha (by kernel_rfl)) ⟨rfl, hI⟩
set_option maxRecDepth 100000 in
set_option maxHeartbeats 4000000 in
/-- cenotaph/cenotaphref05.Get -/
theorem c17 (w0 w : World) (Z : Hp) (A : HP) (hI : Inv w0 Z w A) (a0 : ByteArray) (r : (ApiEvent × ByteArray × Bool)) (h0 : ref05_Get a0 = some r) :
    Calls prog 17 #[.string a0] w (fun e w' => e = .returned (.tuple #[.agg (c_ApiEvent r.1).toArray, .string r.2.1, .bool r.2.2]) ∧ r.1.Sum.length = 32 ∧ Inv w0 Z w' A) := by
  have e4 := calls_intro (R := (fun e w' => e = .returned (.tuple #[.agg (c_ApiEvent r.1).toArray, .string r.2.1, .bool r.2.2]) ∧ r.1.Sum.length = 32 ∧ Inv w0 Z w' A)) (w := w) (args := [.string a0]) (fn := Go.Proofs.Try.f17) 101 Go.Proofs.Try.func17 (by rfl) Go.Proofs.Try.ntmps17 (by kernel_rfl)
  refine e4 ?_
  clear e4
  unfold ref05_Get at h0
  refine CodT.seq ?_
  refine CodT.regionL [0, 1, 2] (by kernel_rfl) ?_
  refine OpsT.cons (Does.allocL (d := 2) (T := 26) (c_ApiEvent (ApiEvent.mk 0 0 (⟨#[]⟩ : ByteArray) 0 0 (List.replicate 32 (0 : Int)))) (by kernel_rfl) ty26 hI (by kernel_rfl) ?_)
  intro b1 w hI
  refine OpsT.pures (r := []) [1, 2] [0, 2] (S' := [(0, .string a0), (2, .pointer (some ⟨b1, 0, none⟩))]) (by kernel_rfl) ?_
  refine OpsT.done ?_
  refine Qn.then ?_
  refine CodT.seq ?_
  refine CodT.regionL [0, 1, 2] (by kernel_rfl) ?_
  refine OpsT.pures (r := [1, 2]) [0] [0, 2, 11] (S' := [(0, .string a0), (2, .pointer (some ⟨b1, 0, none⟩)), (11, .agg (c_ApiEvent (ApiEvent.mk 0 0 (⟨#[]⟩ : ByteArray) 0 0 (List.replicate 32 (0 : Int)))).toArray)]) (by kernel_rfl) ?_
  refine OpsT.cons (Does.allocL (d := 5) (T := 26) (c_ApiEvent (ApiEvent.mk 0 0 (⟨#[]⟩ : ByteArray) 0 0 (List.replicate 32 (0 : Int)))) (by kernel_rfl) ty26 hI (by kernel_rfl) ?_)
  intro b2 w hI
  refine OpsT.cons (Does.storeLit (T := 26) (b := b2) (o := 0) (v := .agg (c_ApiEvent (ApiEvent.mk 0 0 (⟨#[]⟩ : ByteArray) 0 0 (List.replicate 32 (0 : Int)))).toArray) (l := c_ApiEvent (ApiEvent.mk 0 0 (⟨#[]⟩ : ByteArray) 0 0 (List.replicate 32 (0 : Int)))) (vs := c_ApiEvent (ApiEvent.mk 0 0 (⟨#[]⟩ : ByteArray) 0 0 (List.replicate 32 (0 : Int)))) (L' := c_ApiEvent (ApiEvent.mk 0 0 (⟨#[]⟩ : ByteArray) 0 0 (List.replicate 32 (0 : Int)))) (by kernel_rfl) ty26 hI (by kernel_rfl) (len_ApiEvent _ (by kernel_rfl)) (by rw [(len_ApiEvent _ (by kernel_rfl))]; kernel_rfl) (ones_app _ _ (by kernel_rfl) (ones_cA _)) (lset_all _ _ (Eq.trans (len_ApiEvent _ (by kernel_rfl)) (Eq.symm (len_ApiEvent _ (by kernel_rfl))))) ?_)
  intro w hI
  refine OpsT.done ?_
  refine Qn.then ?_
  refine CodT.seq ?_
  refine CodT.regionL [0, 1, 2, 3, 4, 5, 6, 7, 8] (by kernel_rfl) ?_
  refine OpsT.pures (r := [1, 2, 3, 4, 5, 6, 7, 8]) [0] [2, 5, 13] (S' := [(2, .pointer (some ⟨b1, 0, none⟩)), (5, .pointer (some ⟨b2, 0, none⟩)), (13, .string a0)]) (by kernel_rfl) ?_
  obtain ⟨⟨y4, y5, y6⟩, hc3, h0⟩ := bindS h0
  try dsimp only at h0
  refine OpsT.cons (Does.call (d := some 14) (n := 35) (vs := [.string a0]) (by kernel_rfl) en35 (c35 w0 w _ _ hI a0 _ hc3) ?_)
  rintro e w ⟨rfl, hI⟩
  refine ⟨_, rfl, ?_⟩
  refine OpsT.pures (r := []) [2, 3, 4, 5, 6, 7, 8] [2, 5, 6, 7, 8] (S' := [(2, .pointer (some ⟨b1, 0, none⟩)), (5, .pointer (some ⟨b2, 0, none⟩)), (6, .int .i64 y4), (7, .string y5), (8, .bool y6)]) (by kernel_rfl) ?_
  refine OpsT.done ?_
  refine Qn.then ?_
  refine CodT.seq ?_
  obtain ⟨r1, h1, h0⟩ := bindS h0
  refine CodT.meet (fun a w => ∃ (x7 : Bool), x7 = r1 ∧ Fr 101 [(2, .pointer (some ⟨b1, 0, none⟩)), (5, .pointer (some ⟨b2, 0, none⟩)), (6, .int .i64 y4), (7, .string y5), (8, .bool y6), (23, .bool x7)] a ∧ Inv w0 Z w (star (pt b2 (.cells (c_ApiEvent (ApiEvent.mk 0 0 (⟨#[]⟩ : ByteArray) 0 0 (List.replicate 32 (0 : Int)))).toArray 26 (0, 0))) (star (pt b1 (.cells (c_ApiEvent (ApiEvent.mk 0 0 (⟨#[]⟩ : ByteArray) 0 0 (List.replicate 32 (0 : Int)))).toArray 26 (0, 0))) A))) ?_ ?_
  ·
    refine CodT.regionL [0, 1, 2, 3, 4, 5] (by kernel_rfl) ?_
    refine OpsT.pures (r := [3, 4, 5]) [0, 1, 2] [2, 5, 6, 7, 8, 20] (S' := [(2, .pointer (some ⟨b1, 0, none⟩)), (5, .pointer (some ⟨b2, 0, none⟩)), (6, .int .i64 y4), (7, .string y5), (8, .bool y6), (20, .bool (!y6))]) (by kernel_rfl) ?_
    by_cases hb8 : (!y6) = true
    · rw [if_pos hb8] at h1
      refine OpsT.keep [2, 5, 6, 7, 8, 20] (S' := [(2, .pointer (some ⟨b1, 0, none⟩)), (5, .pointer (some ⟨b2, 0, none⟩)), (6, .int .i64 y4), (7, .string y5), (8, .bool y6), (20, .bool true)]) (by (try simp only [hb8]); kernel_rfl) ?_
      refine OpsT.pures (r := []) [3, 4, 5] [2, 5, 6, 7, 8, 23] (S' := [(2, .pointer (some ⟨b1, 0, none⟩)), (5, .pointer (some ⟨b2, 0, none⟩)), (6, .int .i64 y4), (7, .string y5), (8, .bool y6), (23, .bool true)]) (by kernel_rfl) ?_
      refine OpsT.done ?_
      have e := someS h1
      subst e
      exact Qn.thenJ fun a ha => ⟨true, rfl, ha.keep [2, 5, 6, 7, 8, 23] (by kernel_rfl), hI⟩
    · rw [if_neg hb8] at h1
      have hb8 : (!y6) = false := by simpa using hb8
      refine OpsT.keep [2, 5, 6, 7, 8, 20] (S' := [(2, .pointer (some ⟨b1, 0, none⟩)), (5, .pointer (some ⟨b2, 0, none⟩)), (6, .int .i64 y4), (7, .string y5), (8, .bool y6), (20, .bool false)]) (by (try simp only [hb8]); kernel_rfl) ?_
      refine OpsT.pures (r := []) [3, 4, 5] [2, 5, 6, 7, 8, 23] (S' := [(2, .pointer (some ⟨b1, 0, none⟩)), (5, .pointer (some ⟨b2, 0, none⟩)), (6, .int .i64 y4), (7, .string y5), (8, .bool y6), (23, .bool (decide (y4 > 7)))]) (by kernel_rfl) ?_
      refine OpsT.done ?_
      have e := someS h1
      subst e
      exact Qn.thenJ fun a ha => ⟨decide (y4 > 7), rfl, ha.keep [2, 5, 6, 7, 8, 23] (by kernel_rfl), hI⟩
  ·
    rintro a w ⟨x7, rfl, ha, hI⟩
    try dsimp only at h0
    refine CodT.of ?_ ha
    by_cases hb9 : x7 = true
    · rw [if_pos hb9] at h0
      refine CodT.yes' (b := x7) (by kernel_rfl) hb9 ?_
      refine CodT.seq ?_
      refine CodT.regionL [0, 1, 2, 3] (by kernel_rfl) ?_
      refine OpsT.pures (r := [1, 2, 3]) [0] [2, 24] (S' := [(2, .pointer (some ⟨b1, 0, none⟩)), (24, .agg (c_ApiEvent (ApiEvent.mk 0 0 (⟨#[]⟩ : ByteArray) 0 0 (List.replicate 32 (0 : Int)))).toArray)]) (by kernel_rfl) ?_
      have hI := hI.mono (pick2 _ _ _)
      refine OpsT.cons (Does.storeLit (T := 26) (b := b1) (o := 0) (v := .agg (c_ApiEvent (ApiEvent.mk 0 0 (⟨#[]⟩ : ByteArray) 0 0 (List.replicate 32 (0 : Int)))).toArray) (l := c_ApiEvent (ApiEvent.mk 0 0 (⟨#[]⟩ : ByteArray) 0 0 (List.replicate 32 (0 : Int)))) (vs := c_ApiEvent (ApiEvent.mk 0 0 (⟨#[]⟩ : ByteArray) 0 0 (List.replicate 32 (0 : Int)))) (L' := c_ApiEvent (ApiEvent.mk 0 0 (⟨#[]⟩ : ByteArray) 0 0 (List.replicate 32 (0 : Int)))) (by kernel_rfl) ty26 hI (by kernel_rfl) (len_ApiEvent _ (by kernel_rfl)) (by rw [(len_ApiEvent _ (by kernel_rfl))]; kernel_rfl) (ones_app _ _ (by kernel_rfl) (ones_cA _)) (lset_all _ _ (Eq.trans (len_ApiEvent _ (by kernel_rfl)) (Eq.symm (len_ApiEvent _ (by kernel_rfl))))) ?_)
      intro w hI
      refine OpsT.pures (r := []) [2, 3] [2, 3, 4] (S' := [(2, .pointer (some ⟨b1, 0, none⟩)), (3, .string (⟨#[]⟩ : ByteArray)), (4, .bool false)]) (by kernel_rfl) ?_
      refine OpsT.done ?_
      refine Qn.then ?_
      refine CodT.ret ?_
      refine Qn.ret_then ?_
      have hL10 := (ldBN ty26 (l := c_ApiEvent (ApiEvent.mk 0 0 (⟨#[]⟩ : ByteArray) 0 0 (List.replicate 32 (0 : Int)))) (o := 0) (cs := c_ApiEvent (ApiEvent.mk 0 0 (⟨#[]⟩ : ByteArray) 0 0 (List.replicate 32 (0 : Int)))) (ent_refl _) (len_ApiEvent _ (by kernel_rfl)) (whole _ _ (len_ApiEvent _ (by kernel_rfl)))) w hI
      have hI := hI.drop
      have hI := hI.drop
      have e := someS h0
      subst e
      refine Qn.keep [2, 3, 4] (S' := [(2, .pointer (some ⟨b1, 0, none⟩)), (3, .string (⟨#[]⟩ : ByteArray)), (4, .bool false)]) (by kernel_rfl) ?_
      exact post_ret (v := .tuple #[.agg (c_ApiEvent (ApiEvent.mk 0 0 (⟨#[]⟩ : ByteArray) 0 0 (List.replicate 32 (0 : Int)))).toArray, .string (⟨#[]⟩ : ByteArray), .bool false]) (fun a ha => RunRes.run (vs := [.agg (c_ApiEvent (ApiEvent.mk 0 0 (⟨#[]⟩ : ByteArray) 0 0 (List.replicate 32 (0 : Int)))).toArray, .string (⟨#[]⟩ : ByteArray), .bool false]) (.cell (t := 2) (T := 26) (ad := ⟨b1, 0, none⟩) (by kernel_rfl) hL10 (.tmp (t := 3) (by kernel_rfl) (.tmp (t := 4) (by kernel_rfl) .nil))) ha (by kernel_rfl)) ⟨rfl, (by kernel_rfl), hI⟩
    · rw [if_neg hb9] at h0
      refine CodT.no' (b := x7) (by kernel_rfl) (by simpa using hb9) ?_
      refine CodT.skip ?_
      refine Qn.then ?_
      refine CodT.seq ?_
      refine CodT.regionL [0, 1, 2] (by kernel_rfl) ?_
      refine OpsT.pures (r := [2]) [0, 1] [2, 5, 7, 8, 25, 26] (S' := [(2, .pointer (some ⟨b1, 0, none⟩)), (5, .pointer (some ⟨b2, 0, none⟩)), (7, .string y5), (8, .bool y6), (25, .int .i64 y4), (26, .pointer (some ⟨b2, 0, none⟩))]) (by kernel_rfl) ?_
      refine OpsT.cons (Does.storeLit (T := 22) (b := b2) (o := 0) (v := .int .i64 y4) (l := c_ApiEvent (ApiEvent.mk 0 0 (⟨#[]⟩ : ByteArray) 0 0 (List.replicate 32 (0 : Int)))) (vs := ([.int .i64 y4] : List Value)) (L' := c_ApiEvent (ApiEvent.mk y4 0 (⟨#[]⟩ : ByteArray) 0 0 (List.replicate 32 (0 : Int)))) (by kernel_rfl) ty22 hI (by kernel_rfl) (by kernel_rfl) (by kernel_rfl) (by kernel_rfl) (by kernel_rfl) ?_)
      intro w hI
      refine OpsT.done ?_
      refine Qn.then ?_
      refine CodT.seq ?_
      refine CodT.regionL [0, 1, 2, 3, 4] (by kernel_rfl) ?_
      refine OpsT.pures (r := [1, 2, 3, 4]) [0] [2, 5, 7, 8, 27] (S' := [(2, .pointer (some ⟨b1, 0, none⟩)), (5, .pointer (some ⟨b2, 0, none⟩)), (7, .string y5), (8, .bool y6), (27, .pointer (some ⟨b2, 0, none⟩))]) (by kernel_rfl) ?_
      refine OpsT.cons (Does.yi (Yl.load (d := 28) (T := 22) (v := .int .i64 y4) (by kernel_rfl) (ldB ty22 (l := c_ApiEvent (ApiEvent.mk y4 0 (⟨#[]⟩ : ByteArray) 0 0 (List.replicate 32 (0 : Int)))) (o := 0) (v := .int .i64 y4) (ent_refl _) (by kernel_rfl))) hI ?_)
      obtain ⟨y12, hc11, h0⟩ := bindS h0
      try dsimp only at h0
      refine OpsT.cons (Does.call (d := some 29) (n := 21) (vs := [.int .i64 y4]) (by kernel_rfl) en21 (c21 w0 w _ _ hI y4 _ hc11) ?_)
      rintro e w ⟨rfl, hl13, hI⟩
      refine ⟨_, rfl, ?_⟩
      refine OpsT.cons (Does.allocL (d := 9) (T := 48) (cA Value.bool (List.replicate 5 (false : Bool))) (by kernel_rfl) ty48 hI (by kernel_rfl) ?_)
      intro b14 w hI
      refine OpsT.cons (Does.storeAll (T := 48) (b := b14) (n := 5) (xs := (List.replicate 5 (false : Bool))) (ys := y12) (by kernel_rfl) ty48 hI (fun _ => rfl) (by kernel_rfl) hl13 ?_)
      intro w hI
      refine OpsT.done ?_
      refine Qn.then ?_
      obtain ⟨r1, h1, h0⟩ := bindS h0
      refine CodT.meet (fun a w => ∃ (x15 : ByteArray) (x16 : Bool) (x17 : ApiEvent), (x15, x16, x17) = r1 ∧ Fr 101 [(2, .pointer (some ⟨b1, 0, none⟩)), (5, .pointer (some ⟨b2, 0, none⟩)), (7, .string x15), (8, .bool x16), (9, .pointer (some ⟨b14, 0, none⟩))] a ∧ Inv w0 Z w (star (pt b14 (.cells (cA Value.bool y12).toArray 48 (0, 0))) (star (pt b2 (.cells (c_ApiEvent x17).toArray 26 (0, 0))) (star (pt b1 (.cells (c_ApiEvent (ApiEvent.mk 0 0 (⟨#[]⟩ : ByteArray) 0 0 (List.replicate 32 (0 : Int)))).toArray 26 (0, 0))) A))) ∧ x17.Sum.length = 32) ?_ ?_
      ·
        obtain ⟨r2, h2, h1⟩ := bindS h1
        refine CodT.meet (fun a w => ∃ (x19 : Bool), x19 = r2 ∧ Fr 101 [(2, .pointer (some ⟨b1, 0, none⟩)), (5, .pointer (some ⟨b2, 0, none⟩)), (7, .string y5), (8, .bool y6), (9, .pointer (some ⟨b14, 0, none⟩)), (34, .bool x19)] a ∧ Inv w0 Z w (star (pt b14 (.cells (cA Value.bool y12).toArray 48 (0, 0))) (star (pt b2 (.cells (c_ApiEvent (ApiEvent.mk y4 0 (⟨#[]⟩ : ByteArray) 0 0 (List.replicate 32 (0 : Int)))).toArray 26 (0, 0))) (star (pt b1 (.cells (c_ApiEvent (ApiEvent.mk 0 0 (⟨#[]⟩ : ByteArray) 0 0 (List.replicate 32 (0 : Int)))).toArray 26 (0, 0))) A)))) ?_ ?_
        ·
          refine CodT.regionL [0, 1, 2, 3, 4] (by kernel_rfl) ?_
          refine OpsT.pures (r := [1, 2, 3, 4]) [0] [2, 5, 7, 8, 9, 30] (S' := [(2, .pointer (some ⟨b1, 0, none⟩)), (5, .pointer (some ⟨b2, 0, none⟩)), (7, .string y5), (8, .bool y6), (9, .pointer (some ⟨b14, 0, none⟩)), (30, .pointer (some ⟨b14, 0, none⟩))]) (by kernel_rfl) ?_
          refine OpsT.cons (Does.yi (Yl.load (d := 31) (T := 4) (v := .bool (gt y12 0)) (by kernel_rfl) (ldB ty4 (l := cA Value.bool y12) (o := 0) (v := .bool (gt y12 0)) (ent_refl _) (arr_getC _ _ 0 hl13 (by kernel_rfl)))) hI ?_)
          refine OpsT.pures (r := [3, 4]) [2] [2, 5, 7, 8, 9, 32] (S' := [(2, .pointer (some ⟨b1, 0, none⟩)), (5, .pointer (some ⟨b2, 0, none⟩)), (7, .string y5), (8, .bool y6), (9, .pointer (some ⟨b14, 0, none⟩)), (32, .bool (gt y12 0))]) (by kernel_rfl) ?_
          by_cases hb20 : (gt y12 0) = true
          · rw [if_pos hb20] at h2
            refine OpsT.keep [2, 5, 7, 8, 9, 32] (S' := [(2, .pointer (some ⟨b1, 0, none⟩)), (5, .pointer (some ⟨b2, 0, none⟩)), (7, .string y5), (8, .bool y6), (9, .pointer (some ⟨b14, 0, none⟩)), (32, .bool true)]) (by (try simp only [hb20]); kernel_rfl) ?_
            refine OpsT.pures (r := []) [3, 4] [2, 5, 7, 8, 9, 34] (S' := [(2, .pointer (some ⟨b1, 0, none⟩)), (5, .pointer (some ⟨b2, 0, none⟩)), (7, .string y5), (8, .bool y6), (9, .pointer (some ⟨b14, 0, none⟩)), (34, .bool y6)]) (by kernel_rfl) ?_
            refine OpsT.done ?_
            have e := someS h2
            subst e
            exact Qn.thenJ fun a ha => ⟨y6, rfl, ha.keep [2, 5, 7, 8, 9, 34] (by kernel_rfl), hI⟩
          · rw [if_neg hb20] at h2
            have hb20 : (gt y12 0) = false := by simpa using hb20
            refine OpsT.keep [2, 5, 7, 8, 9, 32] (S' := [(2, .pointer (some ⟨b1, 0, none⟩)), (5, .pointer (some ⟨b2, 0, none⟩)), (7, .string y5), (8, .bool y6), (9, .pointer (some ⟨b14, 0, none⟩)), (32, .bool false)]) (by (try simp only [hb20]); kernel_rfl) ?_
            refine OpsT.pures (r := []) [3, 4] [2, 5, 7, 8, 9, 34] (S' := [(2, .pointer (some ⟨b1, 0, none⟩)), (5, .pointer (some ⟨b2, 0, none⟩)), (7, .string y5), (8, .bool y6), (9, .pointer (some ⟨b14, 0, none⟩)), (34, .bool false)]) (by kernel_rfl) ?_
            refine OpsT.done ?_
            have e := someS h2
            subst e
            exact Qn.thenJ fun a ha => ⟨false, rfl, ha.keep [2, 5, 7, 8, 9, 34] (by kernel_rfl), hI⟩
        ·
          rintro a w ⟨x19, rfl, ha, hI⟩
          try dsimp only at h1
          refine CodT.of ?_ ha
          by_cases hb21 : x19 = true
          · rw [if_pos hb21] at h1
            refine CodT.yes' (b := x19) (by kernel_rfl) hb21 ?_
            refine CodT.regionL [0, 1, 2, 3, 4, 5, 6, 7, 8, 9] (by kernel_rfl) ?_
            refine OpsT.pures (r := [1, 2, 3, 4, 5, 6, 7, 8, 9]) [0] [2, 5, 9, 36] (S' := [(2, .pointer (some ⟨b1, 0, none⟩)), (5, .pointer (some ⟨b2, 0, none⟩)), (9, .pointer (some ⟨b14, 0, none⟩)), (36, .string y5)]) (by kernel_rfl) ?_
            obtain ⟨⟨y23, y24, y25⟩, hc22, h1⟩ := bindS h1
            try dsimp only at h1
            refine OpsT.cons (Does.call (d := some 37) (n := 35) (vs := [.string y5]) (by kernel_rfl) en35 (c35 w0 w _ _ hI y5 _ hc22) ?_)
            rintro e w ⟨rfl, hI⟩
            refine ⟨_, rfl, ?_⟩
            refine OpsT.pures (r := [7, 8, 9]) [2, 3, 4, 5, 6] [2, 5, 9, 38, 39, 40, 41] (S' := [(2, .pointer (some ⟨b1, 0, none⟩)), (5, .pointer (some ⟨b2, 0, none⟩)), (9, .pointer (some ⟨b14, 0, none⟩)), (38, .int .i64 y23), (39, .string y24), (40, .bool y25), (41, .pointer (some ⟨b2, 1, none⟩))]) (by kernel_rfl) ?_
            have hI := hI.mono (pick2 _ _ _)
            refine OpsT.cons (Does.storeLit (T := 3) (b := b2) (o := 1) (v := .int .i64 y23) (l := c_ApiEvent (ApiEvent.mk y4 0 (⟨#[]⟩ : ByteArray) 0 0 (List.replicate 32 (0 : Int)))) (vs := ([.int .i64 y23] : List Value)) (L' := c_ApiEvent (ApiEvent.mk y4 y23 (⟨#[]⟩ : ByteArray) 0 0 (List.replicate 32 (0 : Int)))) (by kernel_rfl) ty3 hI (by kernel_rfl) (by kernel_rfl) (by kernel_rfl) (by kernel_rfl) (by kernel_rfl) ?_)
            intro w hI
            refine OpsT.pures (r := []) [8, 9] [2, 5, 7, 8, 9] (S' := [(2, .pointer (some ⟨b1, 0, none⟩)), (5, .pointer (some ⟨b2, 0, none⟩)), (7, .string y24), (8, .bool y25), (9, .pointer (some ⟨b14, 0, none⟩))]) (by kernel_rfl) ?_
            refine OpsT.done ?_
            have hI := hI.mono (pick3 _ _ _ _)
            have hI := hI.mono (pick2 _ _ _)
            have hI := hI.mono (pick3 _ _ _ _)
            have e := someS h1
            subst e
            exact Qn.thenJ fun a ha => ⟨y24, y25, (ApiEvent.mk y4 y23 (⟨#[]⟩ : ByteArray) 0 0 (List.replicate 32 (0 : Int))), rfl, ha.keep [2, 5, 7, 8, 9] (by kernel_rfl), hI, (by kernel_rfl)⟩
          · rw [if_neg hb21] at h1
            refine CodT.no' (b := x19) (by kernel_rfl) (by simpa using hb21) ?_
            refine CodT.skip ?_
            have e := someS h1
            subst e
            exact Qn.thenJ fun a ha => ⟨y5, y6, (ApiEvent.mk y4 0 (⟨#[]⟩ : ByteArray) 0 0 (List.replicate 32 (0 : Int))), rfl, ha.keep [2, 5, 7, 8, 9] (by kernel_rfl), hI, (by kernel_rfl)⟩
      ·
        rintro a w ⟨x15, x16, x17, rfl, ha, hI, hl18⟩
        try dsimp only at h0
        refine CodT.of ?_ ha
        obtain ⟨r1, h1, h0⟩ := bindS h0
        refine CodT.meet (fun a w => ∃ (x26 : ByteArray) (x27 : Bool) (x28 : ApiEvent), (x26, x27, x28) = r1 ∧ Fr 101 [(2, .pointer (some ⟨b1, 0, none⟩)), (5, .pointer (some ⟨b2, 0, none⟩)), (7, .string x26), (8, .bool x27), (9, .pointer (some ⟨b14, 0, none⟩))] a ∧ Inv w0 Z w (star (pt b14 (.cells (cA Value.bool y12).toArray 48 (0, 0))) (star (pt b2 (.cells (c_ApiEvent x28).toArray 26 (0, 0))) (star (pt b1 (.cells (c_ApiEvent (ApiEvent.mk 0 0 (⟨#[]⟩ : ByteArray) 0 0 (List.replicate 32 (0 : Int)))).toArray 26 (0, 0))) A))) ∧ x28.Sum.length = 32) ?_ ?_
        ·
          obtain ⟨r2, h2, h1⟩ := bindS h1
          refine CodT.meet (fun a w => ∃ (x30 : Bool), x30 = r2 ∧ Fr 101 [(2, .pointer (some ⟨b1, 0, none⟩)), (5, .pointer (some ⟨b2, 0, none⟩)), (7, .string x15), (8, .bool x16), (9, .pointer (some ⟨b14, 0, none⟩)), (46, .bool x30)] a ∧ Inv w0 Z w (star (pt b14 (.cells (cA Value.bool y12).toArray 48 (0, 0))) (star (pt b2 (.cells (c_ApiEvent x17).toArray 26 (0, 0))) (star (pt b1 (.cells (c_ApiEvent (ApiEvent.mk 0 0 (⟨#[]⟩ : ByteArray) 0 0 (List.replicate 32 (0 : Int)))).toArray 26 (0, 0))) A)))) ?_ ?_
          ·
            refine CodT.regionL [0, 1, 2, 3, 4] (by kernel_rfl) ?_
            refine OpsT.pures (r := [1, 2, 3, 4]) [0] [2, 5, 7, 8, 9, 42] (S' := [(2, .pointer (some ⟨b1, 0, none⟩)), (5, .pointer (some ⟨b2, 0, none⟩)), (7, .string x15), (8, .bool x16), (9, .pointer (some ⟨b14, 0, none⟩)), (42, .pointer (some ⟨b14, 1, none⟩))]) (by kernel_rfl) ?_
            refine OpsT.cons (Does.yi (Yl.load (d := 43) (T := 4) (v := .bool (gt y12 1)) (by kernel_rfl) (ldB ty4 (l := cA Value.bool y12) (o := 1) (v := .bool (gt y12 1)) (ent_refl _) (arr_getC _ _ 1 hl13 (by kernel_rfl)))) hI ?_)
            refine OpsT.pures (r := [3, 4]) [2] [2, 5, 7, 8, 9, 44] (S' := [(2, .pointer (some ⟨b1, 0, none⟩)), (5, .pointer (some ⟨b2, 0, none⟩)), (7, .string x15), (8, .bool x16), (9, .pointer (some ⟨b14, 0, none⟩)), (44, .bool (gt y12 1))]) (by kernel_rfl) ?_
            by_cases hb31 : (gt y12 1) = true
            · rw [if_pos hb31] at h2
              refine OpsT.keep [2, 5, 7, 8, 9, 44] (S' := [(2, .pointer (some ⟨b1, 0, none⟩)), (5, .pointer (some ⟨b2, 0, none⟩)), (7, .string x15), (8, .bool x16), (9, .pointer (some ⟨b14, 0, none⟩)), (44, .bool true)]) (by (try simp only [hb31]); kernel_rfl) ?_
              refine OpsT.pures (r := []) [3, 4] [2, 5, 7, 8, 9, 46] (S' := [(2, .pointer (some ⟨b1, 0, none⟩)), (5, .pointer (some ⟨b2, 0, none⟩)), (7, .string x15), (8, .bool x16), (9, .pointer (some ⟨b14, 0, none⟩)), (46, .bool x16)]) (by kernel_rfl) ?_
              refine OpsT.done ?_
              have e := someS h2
              subst e
              exact Qn.thenJ fun a ha => ⟨x16, rfl, ha.keep [2, 5, 7, 8, 9, 46] (by kernel_rfl), hI⟩
            · rw [if_neg hb31] at h2
              have hb31 : (gt y12 1) = false := by simpa using hb31
              refine OpsT.keep [2, 5, 7, 8, 9, 44] (S' := [(2, .pointer (some ⟨b1, 0, none⟩)), (5, .pointer (some ⟨b2, 0, none⟩)), (7, .string x15), (8, .bool x16), (9, .pointer (some ⟨b14, 0, none⟩)), (44, .bool false)]) (by (try simp only [hb31]); kernel_rfl) ?_
              refine OpsT.pures (r := []) [3, 4] [2, 5, 7, 8, 9, 46] (S' := [(2, .pointer (some ⟨b1, 0, none⟩)), (5, .pointer (some ⟨b2, 0, none⟩)), (7, .string x15), (8, .bool x16), (9, .pointer (some ⟨b14, 0, none⟩)), (46, .bool false)]) (by kernel_rfl) ?_
              refine OpsT.done ?_
              have e := someS h2
              subst e
              exact Qn.thenJ fun a ha => ⟨false, rfl, ha.keep [2, 5, 7, 8, 9, 46] (by kernel_rfl), hI⟩
          ·
            rintro a w ⟨x30, rfl, ha, hI⟩
            try dsimp only at h1
            refine CodT.of ?_ ha
            by_cases hb32 : x30 = true
            · rw [if_pos hb32] at h1
              refine CodT.yes' (b := x30) (by kernel_rfl) hb32 ?_
              refine CodT.regionL [0, 1, 2, 3, 4, 5, 6, 7, 8, 9] (by kernel_rfl) ?_
              refine OpsT.pures (r := [1, 2, 3, 4, 5, 6, 7, 8, 9]) [0] [2, 5, 9, 48] (S' := [(2, .pointer (some ⟨b1, 0, none⟩)), (5, .pointer (some ⟨b2, 0, none⟩)), (9, .pointer (some ⟨b14, 0, none⟩)), (48, .string x15)]) (by kernel_rfl) ?_
              obtain ⟨⟨y34, y35, y36⟩, hc33, h1⟩ := bindS h1
              try dsimp only at h1
              refine OpsT.cons (Does.call (d := some 49) (n := 36) (vs := [.string x15, .int .i64 100]) (by kernel_rfl) en36 (c36 w0 w _ _ hI x15 100 _ hc33) ?_)
              rintro e w ⟨rfl, hI⟩
              refine ⟨_, rfl, ?_⟩
              refine OpsT.pures (r := [7, 8, 9]) [2, 3, 4, 5, 6] [2, 5, 9, 50, 51, 52, 53] (S' := [(2, .pointer (some ⟨b1, 0, none⟩)), (5, .pointer (some ⟨b2, 0, none⟩)), (9, .pointer (some ⟨b14, 0, none⟩)), (50, .string y34), (51, .string y35), (52, .bool y36), (53, .pointer (some ⟨b2, 2, none⟩))]) (by kernel_rfl) ?_
              have hI := hI.mono (pick2 _ _ _)
              refine OpsT.cons (Does.storeLit (T := 9) (b := b2) (o := 2) (v := .string y34) (l := c_ApiEvent x17) (vs := ([.string y34] : List Value)) (L' := c_ApiEvent (ApiEvent.mk x17.Kind x17.ID y34 x17.Time x17.Len x17.Sum)) (by kernel_rfl) ty9 hI (by kernel_rfl) (by kernel_rfl) (by kernel_rfl) (by kernel_rfl) (by kernel_rfl) ?_)
              intro w hI
              refine OpsT.pures (r := []) [8, 9] [2, 5, 7, 8, 9] (S' := [(2, .pointer (some ⟨b1, 0, none⟩)), (5, .pointer (some ⟨b2, 0, none⟩)), (7, .string y35), (8, .bool y36), (9, .pointer (some ⟨b14, 0, none⟩))]) (by kernel_rfl) ?_
              refine OpsT.done ?_
              have hI := hI.mono (pick3 _ _ _ _)
              have hI := hI.mono (pick2 _ _ _)
              have hI := hI.mono (pick3 _ _ _ _)
              have e := someS h1
              subst e
              exact Qn.thenJ fun a ha => ⟨y35, y36, (ApiEvent.mk x17.Kind x17.ID y34 x17.Time x17.Len x17.Sum), rfl, ha.keep [2, 5, 7, 8, 9] (by kernel_rfl), hI, hl18⟩
            · rw [if_neg hb32] at h1
              refine CodT.no' (b := x30) (by kernel_rfl) (by simpa using hb32) ?_
              refine CodT.skip ?_
              have e := someS h1
              subst e
              exact Qn.thenJ fun a ha => ⟨x15, x16, x17, rfl, ha.keep [2, 5, 7, 8, 9] (by kernel_rfl), hI, hl18⟩
        ·
          rintro a w ⟨x26, x27, x28, rfl, ha, hI, hl29⟩
          try dsimp only at h0
          refine CodT.of ?_ ha
          obtain ⟨r1, h1, h0⟩ := bindS h0
          refine CodT.meet (fun a w => ∃ (x37 : ByteArray) (x38 : Bool) (x39 : ApiEvent), (x37, x38, x39) = r1 ∧ Fr 101 [(2, .pointer (some ⟨b1, 0, none⟩)), (5, .pointer (some ⟨b2, 0, none⟩)), (7, .string x37), (8, .bool x38), (9, .pointer (some ⟨b14, 0, none⟩))] a ∧ Inv w0 Z w (star (pt b14 (.cells (cA Value.bool y12).toArray 48 (0, 0))) (star (pt b2 (.cells (c_ApiEvent x39).toArray 26 (0, 0))) (star (pt b1 (.cells (c_ApiEvent (ApiEvent.mk 0 0 (⟨#[]⟩ : ByteArray) 0 0 (List.replicate 32 (0 : Int)))).toArray 26 (0, 0))) A))) ∧ x39.Sum.length = 32) ?_ ?_
          ·
            obtain ⟨r2, h2, h1⟩ := bindS h1
            refine CodT.meet (fun a w => ∃ (x41 : Bool), x41 = r2 ∧ Fr 101 [(2, .pointer (some ⟨b1, 0, none⟩)), (5, .pointer (some ⟨b2, 0, none⟩)), (7, .string x26), (8, .bool x27), (9, .pointer (some ⟨b14, 0, none⟩)), (58, .bool x41)] a ∧ Inv w0 Z w (star (pt b14 (.cells (cA Value.bool y12).toArray 48 (0, 0))) (star (pt b2 (.cells (c_ApiEvent x28).toArray 26 (0, 0))) (star (pt b1 (.cells (c_ApiEvent (ApiEvent.mk 0 0 (⟨#[]⟩ : ByteArray) 0 0 (List.replicate 32 (0 : Int)))).toArray 26 (0, 0))) A)))) ?_ ?_
            ·
              refine CodT.regionL [0, 1, 2, 3, 4] (by kernel_rfl) ?_
              refine OpsT.pures (r := [1, 2, 3, 4]) [0] [2, 5, 7, 8, 9, 54] (S' := [(2, .pointer (some ⟨b1, 0, none⟩)), (5, .pointer (some ⟨b2, 0, none⟩)), (7, .string x26), (8, .bool x27), (9, .pointer (some ⟨b14, 0, none⟩)), (54, .pointer (some ⟨b14, 2, none⟩))]) (by kernel_rfl) ?_
              refine OpsT.cons (Does.yi (Yl.load (d := 55) (T := 4) (v := .bool (gt y12 2)) (by kernel_rfl) (ldB ty4 (l := cA Value.bool y12) (o := 2) (v := .bool (gt y12 2)) (ent_refl _) (arr_getC _ _ 2 hl13 (by kernel_rfl)))) hI ?_)
              refine OpsT.pures (r := [3, 4]) [2] [2, 5, 7, 8, 9, 56] (S' := [(2, .pointer (some ⟨b1, 0, none⟩)), (5, .pointer (some ⟨b2, 0, none⟩)), (7, .string x26), (8, .bool x27), (9, .pointer (some ⟨b14, 0, none⟩)), (56, .bool (gt y12 2))]) (by kernel_rfl) ?_
              by_cases hb42 : (gt y12 2) = true
              · rw [if_pos hb42] at h2
                refine OpsT.keep [2, 5, 7, 8, 9, 56] (S' := [(2, .pointer (some ⟨b1, 0, none⟩)), (5, .pointer (some ⟨b2, 0, none⟩)), (7, .string x26), (8, .bool x27), (9, .pointer (some ⟨b14, 0, none⟩)), (56, .bool true)]) (by (try simp only [hb42]); kernel_rfl) ?_
                refine OpsT.pures (r := []) [3, 4] [2, 5, 7, 8, 9, 58] (S' := [(2, .pointer (some ⟨b1, 0, none⟩)), (5, .pointer (some ⟨b2, 0, none⟩)), (7, .string x26), (8, .bool x27), (9, .pointer (some ⟨b14, 0, none⟩)), (58, .bool x27)]) (by kernel_rfl) ?_
                refine OpsT.done ?_
                have e := someS h2
                subst e
                exact Qn.thenJ fun a ha => ⟨x27, rfl, ha.keep [2, 5, 7, 8, 9, 58] (by kernel_rfl), hI⟩
              · rw [if_neg hb42] at h2
                have hb42 : (gt y12 2) = false := by simpa using hb42
                refine OpsT.keep [2, 5, 7, 8, 9, 56] (S' := [(2, .pointer (some ⟨b1, 0, none⟩)), (5, .pointer (some ⟨b2, 0, none⟩)), (7, .string x26), (8, .bool x27), (9, .pointer (some ⟨b14, 0, none⟩)), (56, .bool false)]) (by (try simp only [hb42]); kernel_rfl) ?_
                refine OpsT.pures (r := []) [3, 4] [2, 5, 7, 8, 9, 58] (S' := [(2, .pointer (some ⟨b1, 0, none⟩)), (5, .pointer (some ⟨b2, 0, none⟩)), (7, .string x26), (8, .bool x27), (9, .pointer (some ⟨b14, 0, none⟩)), (58, .bool false)]) (by kernel_rfl) ?_
                refine OpsT.done ?_
                have e := someS h2
                subst e
                exact Qn.thenJ fun a ha => ⟨false, rfl, ha.keep [2, 5, 7, 8, 9, 58] (by kernel_rfl), hI⟩
            ·
              rintro a w ⟨x41, rfl, ha, hI⟩
              try dsimp only at h1
              refine CodT.of ?_ ha
              by_cases hb43 : x41 = true
              · rw [if_pos hb43] at h1
                refine CodT.yes' (b := x41) (by kernel_rfl) hb43 ?_
                refine CodT.regionL [0, 1, 2, 3, 4, 5, 6, 7, 8, 9] (by kernel_rfl) ?_
                refine OpsT.pures (r := [1, 2, 3, 4, 5, 6, 7, 8, 9]) [0] [2, 5, 9, 60] (S' := [(2, .pointer (some ⟨b1, 0, none⟩)), (5, .pointer (some ⟨b2, 0, none⟩)), (9, .pointer (some ⟨b14, 0, none⟩)), (60, .string x26)]) (by kernel_rfl) ?_
                obtain ⟨⟨y45, y46, y47⟩, hc44, h1⟩ := bindS h1
                try dsimp only at h1
                refine OpsT.cons (Does.call (d := some 61) (n := 35) (vs := [.string x26]) (by kernel_rfl) en35 (c35 w0 w _ _ hI x26 _ hc44) ?_)
                rintro e w ⟨rfl, hI⟩
                refine ⟨_, rfl, ?_⟩
                refine OpsT.pures (r := [7, 8, 9]) [2, 3, 4, 5, 6] [2, 5, 9, 62, 63, 64, 65] (S' := [(2, .pointer (some ⟨b1, 0, none⟩)), (5, .pointer (some ⟨b2, 0, none⟩)), (9, .pointer (some ⟨b14, 0, none⟩)), (62, .int .i64 y45), (63, .string y46), (64, .bool y47), (65, .pointer (some ⟨b2, 3, none⟩))]) (by kernel_rfl) ?_
                have hI := hI.mono (pick2 _ _ _)
                refine OpsT.cons (Does.storeLit (T := 3) (b := b2) (o := 3) (v := .int .i64 y45) (l := c_ApiEvent x28) (vs := ([.int .i64 y45] : List Value)) (L' := c_ApiEvent (ApiEvent.mk x28.Kind x28.ID x28.Name y45 x28.Len x28.Sum)) (by kernel_rfl) ty3 hI (by kernel_rfl) (by kernel_rfl) (by kernel_rfl) (by kernel_rfl) (by kernel_rfl) ?_)
                intro w hI
                refine OpsT.pures (r := []) [8, 9] [2, 5, 7, 8, 9] (S' := [(2, .pointer (some ⟨b1, 0, none⟩)), (5, .pointer (some ⟨b2, 0, none⟩)), (7, .string y46), (8, .bool y47), (9, .pointer (some ⟨b14, 0, none⟩))]) (by kernel_rfl) ?_
                refine OpsT.done ?_
                have hI := hI.mono (pick3 _ _ _ _)
                have hI := hI.mono (pick2 _ _ _)
                have hI := hI.mono (pick3 _ _ _ _)
                have e := someS h1
                subst e
                exact Qn.thenJ fun a ha => ⟨y46, y47, (ApiEvent.mk x28.Kind x28.ID x28.Name y45 x28.Len x28.Sum), rfl, ha.keep [2, 5, 7, 8, 9] (by kernel_rfl), hI, hl29⟩
              · rw [if_neg hb43] at h1
                refine CodT.no' (b := x41) (by kernel_rfl) (by simpa using hb43) ?_
                refine CodT.skip ?_
                have e := someS h1
                subst e
                exact Qn.thenJ fun a ha => ⟨x26, x27, x28, rfl, ha.keep [2, 5, 7, 8, 9] (by kernel_rfl), hI, hl29⟩
          ·
            rintro a w ⟨x37, x38, x39, rfl, ha, hI, hl40⟩
            try dsimp only at h0
            refine CodT.of ?_ ha
            obtain ⟨r1, h1, h0⟩ := bindS h0
            refine CodT.meet (fun a w => ∃ (x48 : ByteArray) (x49 : Bool) (x50 : ApiEvent), (x48, x49, x50) = r1 ∧ Fr 101 [(2, .pointer (some ⟨b1, 0, none⟩)), (5, .pointer (some ⟨b2, 0, none⟩)), (7, .string x48), (8, .bool x49), (9, .pointer (some ⟨b14, 0, none⟩))] a ∧ Inv w0 Z w (star (pt b14 (.cells (cA Value.bool y12).toArray 48 (0, 0))) (star (pt b2 (.cells (c_ApiEvent x50).toArray 26 (0, 0))) (star (pt b1 (.cells (c_ApiEvent (ApiEvent.mk 0 0 (⟨#[]⟩ : ByteArray) 0 0 (List.replicate 32 (0 : Int)))).toArray 26 (0, 0))) A))) ∧ x50.Sum.length = 32) ?_ ?_
            ·
              obtain ⟨r2, h2, h1⟩ := bindS h1
              refine CodT.meet (fun a w => ∃ (x52 : Bool), x52 = r2 ∧ Fr 101 [(2, .pointer (some ⟨b1, 0, none⟩)), (5, .pointer (some ⟨b2, 0, none⟩)), (7, .string x37), (8, .bool x38), (9, .pointer (some ⟨b14, 0, none⟩)), (70, .bool x52)] a ∧ Inv w0 Z w (star (pt b14 (.cells (cA Value.bool y12).toArray 48 (0, 0))) (star (pt b2 (.cells (c_ApiEvent x39).toArray 26 (0, 0))) (star (pt b1 (.cells (c_ApiEvent (ApiEvent.mk 0 0 (⟨#[]⟩ : ByteArray) 0 0 (List.replicate 32 (0 : Int)))).toArray 26 (0, 0))) A)))) ?_ ?_
              ·
                refine CodT.regionL [0, 1, 2, 3, 4] (by kernel_rfl) ?_
                refine OpsT.pures (r := [1, 2, 3, 4]) [0] [2, 5, 7, 8, 9, 66] (S' := [(2, .pointer (some ⟨b1, 0, none⟩)), (5, .pointer (some ⟨b2, 0, none⟩)), (7, .string x37), (8, .bool x38), (9, .pointer (some ⟨b14, 0, none⟩)), (66, .pointer (some ⟨b14, 3, none⟩))]) (by kernel_rfl) ?_
                refine OpsT.cons (Does.yi (Yl.load (d := 67) (T := 4) (v := .bool (gt y12 3)) (by kernel_rfl) (ldB ty4 (l := cA Value.bool y12) (o := 3) (v := .bool (gt y12 3)) (ent_refl _) (arr_getC _ _ 3 hl13 (by kernel_rfl)))) hI ?_)
                refine OpsT.pures (r := [3, 4]) [2] [2, 5, 7, 8, 9, 68] (S' := [(2, .pointer (some ⟨b1, 0, none⟩)), (5, .pointer (some ⟨b2, 0, none⟩)), (7, .string x37), (8, .bool x38), (9, .pointer (some ⟨b14, 0, none⟩)), (68, .bool (gt y12 3))]) (by kernel_rfl) ?_
                by_cases hb53 : (gt y12 3) = true
                · rw [if_pos hb53] at h2
                  refine OpsT.keep [2, 5, 7, 8, 9, 68] (S' := [(2, .pointer (some ⟨b1, 0, none⟩)), (5, .pointer (some ⟨b2, 0, none⟩)), (7, .string x37), (8, .bool x38), (9, .pointer (some ⟨b14, 0, none⟩)), (68, .bool true)]) (by (try simp only [hb53]); kernel_rfl) ?_
                  refine OpsT.pures (r := []) [3, 4] [2, 5, 7, 8, 9, 70] (S' := [(2, .pointer (some ⟨b1, 0, none⟩)), (5, .pointer (some ⟨b2, 0, none⟩)), (7, .string x37), (8, .bool x38), (9, .pointer (some ⟨b14, 0, none⟩)), (70, .bool x38)]) (by kernel_rfl) ?_
                  refine OpsT.done ?_
                  have e := someS h2
                  subst e
                  exact Qn.thenJ fun a ha => ⟨x38, rfl, ha.keep [2, 5, 7, 8, 9, 70] (by kernel_rfl), hI⟩
                · rw [if_neg hb53] at h2
                  have hb53 : (gt y12 3) = false := by simpa using hb53
                  refine OpsT.keep [2, 5, 7, 8, 9, 68] (S' := [(2, .pointer (some ⟨b1, 0, none⟩)), (5, .pointer (some ⟨b2, 0, none⟩)), (7, .string x37), (8, .bool x38), (9, .pointer (some ⟨b14, 0, none⟩)), (68, .bool false)]) (by (try simp only [hb53]); kernel_rfl) ?_
                  refine OpsT.pures (r := []) [3, 4] [2, 5, 7, 8, 9, 70] (S' := [(2, .pointer (some ⟨b1, 0, none⟩)), (5, .pointer (some ⟨b2, 0, none⟩)), (7, .string x37), (8, .bool x38), (9, .pointer (some ⟨b14, 0, none⟩)), (70, .bool false)]) (by kernel_rfl) ?_
                  refine OpsT.done ?_
                  have e := someS h2
                  subst e
                  exact Qn.thenJ fun a ha => ⟨false, rfl, ha.keep [2, 5, 7, 8, 9, 70] (by kernel_rfl), hI⟩
              ·
                rintro a w ⟨x52, rfl, ha, hI⟩
                try dsimp only at h1
                refine CodT.of ?_ ha
                by_cases hb54 : x52 = true
                · rw [if_pos hb54] at h1
                  refine CodT.yes' (b := x52) (by kernel_rfl) hb54 ?_
                  refine CodT.regionL [0, 1, 2, 3, 4, 5, 6, 7, 8, 9] (by kernel_rfl) ?_
                  refine OpsT.pures (r := [1, 2, 3, 4, 5, 6, 7, 8, 9]) [0] [2, 5, 9, 72] (S' := [(2, .pointer (some ⟨b1, 0, none⟩)), (5, .pointer (some ⟨b2, 0, none⟩)), (9, .pointer (some ⟨b14, 0, none⟩)), (72, .string x37)]) (by kernel_rfl) ?_
                  obtain ⟨⟨y56, y57, y58⟩, hc55, h1⟩ := bindS h1
                  try dsimp only at h1
                  refine OpsT.cons (Does.call (d := some 73) (n := 35) (vs := [.string x37]) (by kernel_rfl) en35 (c35 w0 w _ _ hI x37 _ hc55) ?_)
                  rintro e w ⟨rfl, hI⟩
                  refine ⟨_, rfl, ?_⟩
                  refine OpsT.pures (r := [7, 8, 9]) [2, 3, 4, 5, 6] [2, 5, 9, 74, 75, 76, 77] (S' := [(2, .pointer (some ⟨b1, 0, none⟩)), (5, .pointer (some ⟨b2, 0, none⟩)), (9, .pointer (some ⟨b14, 0, none⟩)), (74, .int .i64 y56), (75, .string y57), (76, .bool y58), (77, .pointer (some ⟨b2, 4, none⟩))]) (by kernel_rfl) ?_
                  have hI := hI.mono (pick2 _ _ _)
                  refine OpsT.cons (Does.storeLit (T := 3) (b := b2) (o := 4) (v := .int .i64 y56) (l := c_ApiEvent x39) (vs := ([.int .i64 y56] : List Value)) (L' := c_ApiEvent (ApiEvent.mk x39.Kind x39.ID x39.Name x39.Time y56 x39.Sum)) (by kernel_rfl) ty3 hI (by kernel_rfl) (by kernel_rfl) (by kernel_rfl) (by kernel_rfl) (by kernel_rfl) ?_)
                  intro w hI
                  refine OpsT.pures (r := []) [8, 9] [2, 5, 7, 8, 9] (S' := [(2, .pointer (some ⟨b1, 0, none⟩)), (5, .pointer (some ⟨b2, 0, none⟩)), (7, .string y57), (8, .bool y58), (9, .pointer (some ⟨b14, 0, none⟩))]) (by kernel_rfl) ?_
                  refine OpsT.done ?_
                  have hI := hI.mono (pick3 _ _ _ _)
                  have hI := hI.mono (pick2 _ _ _)
                  have hI := hI.mono (pick3 _ _ _ _)
                  have e := someS h1
                  subst e
                  exact Qn.thenJ fun a ha => ⟨y57, y58, (ApiEvent.mk x39.Kind x39.ID x39.Name x39.Time y56 x39.Sum), rfl, ha.keep [2, 5, 7, 8, 9] (by kernel_rfl), hI, hl40⟩
                · rw [if_neg hb54] at h1
                  refine CodT.no' (b := x52) (by kernel_rfl) (by simpa using hb54) ?_
                  refine CodT.skip ?_
                  have e := someS h1
                  subst e
                  exact Qn.thenJ fun a ha => ⟨x37, x38, x39, rfl, ha.keep [2, 5, 7, 8, 9] (by kernel_rfl), hI, hl40⟩
            ·
              rintro a w ⟨x48, x49, x50, rfl, ha, hI, hl51⟩
              try dsimp only at h0
              refine CodT.of ?_ ha
              obtain ⟨r1, h1, h0⟩ := bindS h0
              refine CodT.meet (fun a w => ∃ (x59 : ByteArray) (x60 : Bool) (x61 : ApiEvent), (x59, x60, x61) = r1 ∧ Fr 101 [(2, .pointer (some ⟨b1, 0, none⟩)), (5, .pointer (some ⟨b2, 0, none⟩)), (7, .string x59), (8, .bool x60)] a ∧ Inv w0 Z w (star (pt b2 (.cells (c_ApiEvent x61).toArray 26 (0, 0))) (star (pt b1 (.cells (c_ApiEvent (ApiEvent.mk 0 0 (⟨#[]⟩ : ByteArray) 0 0 (List.replicate 32 (0 : Int)))).toArray 26 (0, 0))) A)) ∧ x61.Sum.length = 32) ?_ ?_
              ·
                obtain ⟨r2, h2, h1⟩ := bindS h1
                refine CodT.meet (fun a w => ∃ (x63 : Bool), x63 = r2 ∧ Fr 101 [(2, .pointer (some ⟨b1, 0, none⟩)), (5, .pointer (some ⟨b2, 0, none⟩)), (7, .string x48), (8, .bool x49), (82, .bool x63)] a ∧ Inv w0 Z w (star (pt b2 (.cells (c_ApiEvent x50).toArray 26 (0, 0))) (star (pt b1 (.cells (c_ApiEvent (ApiEvent.mk 0 0 (⟨#[]⟩ : ByteArray) 0 0 (List.replicate 32 (0 : Int)))).toArray 26 (0, 0))) A))) ?_ ?_
                ·
                  refine CodT.regionL [0, 1, 2, 3, 4] (by kernel_rfl) ?_
                  refine OpsT.pures (r := [1, 2, 3, 4]) [0] [2, 5, 7, 8, 78] (S' := [(2, .pointer (some ⟨b1, 0, none⟩)), (5, .pointer (some ⟨b2, 0, none⟩)), (7, .string x48), (8, .bool x49), (78, .pointer (some ⟨b14, 4, none⟩))]) (by kernel_rfl) ?_
                  refine OpsT.cons (Does.yi (Yl.load (d := 79) (T := 4) (v := .bool (gt y12 4)) (by kernel_rfl) (ldB ty4 (l := cA Value.bool y12) (o := 4) (v := .bool (gt y12 4)) (ent_refl _) (arr_getC _ _ 4 hl13 (by kernel_rfl)))) hI ?_)
                  refine OpsT.pures (r := [3, 4]) [2] [2, 5, 7, 8, 80] (S' := [(2, .pointer (some ⟨b1, 0, none⟩)), (5, .pointer (some ⟨b2, 0, none⟩)), (7, .string x48), (8, .bool x49), (80, .bool (gt y12 4))]) (by kernel_rfl) ?_
                  by_cases hb64 : (gt y12 4) = true
                  · rw [if_pos hb64] at h2
                    refine OpsT.keep [2, 5, 7, 8, 80] (S' := [(2, .pointer (some ⟨b1, 0, none⟩)), (5, .pointer (some ⟨b2, 0, none⟩)), (7, .string x48), (8, .bool x49), (80, .bool true)]) (by (try simp only [hb64]); kernel_rfl) ?_
                    refine OpsT.pures (r := []) [3, 4] [2, 5, 7, 8, 82] (S' := [(2, .pointer (some ⟨b1, 0, none⟩)), (5, .pointer (some ⟨b2, 0, none⟩)), (7, .string x48), (8, .bool x49), (82, .bool x49)]) (by kernel_rfl) ?_
                    refine OpsT.done ?_
                    have hI := hI.drop
                    have e := someS h2
                    subst e
                    exact Qn.thenJ fun a ha => ⟨x49, rfl, ha.keep [2, 5, 7, 8, 82] (by kernel_rfl), hI⟩
                  · rw [if_neg hb64] at h2
                    have hb64 : (gt y12 4) = false := by simpa using hb64
                    refine OpsT.keep [2, 5, 7, 8, 80] (S' := [(2, .pointer (some ⟨b1, 0, none⟩)), (5, .pointer (some ⟨b2, 0, none⟩)), (7, .string x48), (8, .bool x49), (80, .bool false)]) (by (try simp only [hb64]); kernel_rfl) ?_
                    refine OpsT.pures (r := []) [3, 4] [2, 5, 7, 8, 82] (S' := [(2, .pointer (some ⟨b1, 0, none⟩)), (5, .pointer (some ⟨b2, 0, none⟩)), (7, .string x48), (8, .bool x49), (82, .bool false)]) (by kernel_rfl) ?_
                    refine OpsT.done ?_
                    have hI := hI.drop
                    have e := someS h2
                    subst e
                    exact Qn.thenJ fun a ha => ⟨false, rfl, ha.keep [2, 5, 7, 8, 82] (by kernel_rfl), hI⟩
                ·
                  rintro a w ⟨x63, rfl, ha, hI⟩
                  try dsimp only at h1
                  refine CodT.of ?_ ha
                  by_cases hb65 : x63 = true
                  · rw [if_pos hb65] at h1
                    refine CodT.yes' (b := x63) (by kernel_rfl) hb65 ?_
                    refine CodT.regionL [0, 1, 2, 3, 4, 5, 6, 7, 8, 9] (by kernel_rfl) ?_
                    refine OpsT.pures (r := [1, 2, 3, 4, 5, 6, 7, 8, 9]) [0] [2, 5, 84] (S' := [(2, .pointer (some ⟨b1, 0, none⟩)), (5, .pointer (some ⟨b2, 0, none⟩)), (84, .string x48)]) (by kernel_rfl) ?_
                    obtain ⟨⟨y67, y69, y70⟩, hc66, h1⟩ := bindS h1
                    try dsimp only at h1
                    refine OpsT.cons (Does.call (d := some 85) (n := 37) (vs := [.string x48]) (by kernel_rfl) en37 (c37 w0 w _ _ hI x48 _ hc66) ?_)
                    rintro e w ⟨rfl, hl68, hI⟩
                    refine ⟨_, rfl, ?_⟩
                    refine OpsT.pures (r := [7, 8, 9]) [2, 3, 4, 5, 6] [2, 5, 86, 87, 88, 89] (S' := [(2, .pointer (some ⟨b1, 0, none⟩)), (5, .pointer (some ⟨b2, 0, none⟩)), (86, .agg (cA (Value.int .u8) y67).toArray), (87, .string y69), (88, .bool y70), (89, .pointer (some ⟨b2, 5, none⟩))]) (by kernel_rfl) ?_
                    refine OpsT.cons (Does.storeLit (T := 24) (b := b2) (o := 5) (v := .agg (cA (Value.int .u8) y67).toArray) (l := c_ApiEvent x50) (vs := cA (Value.int .u8) y67) (L' := c_ApiEvent (ApiEvent.mk x50.Kind x50.ID x50.Name x50.Time x50.Len y67)) (by kernel_rfl) ty24 hI (by kernel_rfl) ((cA_length _ _).trans hl68) (by rw [(len_ApiEvent _ hl51)]; kernel_rfl) (ones_cA _) (tail_all _ _ _ _ _ (by kernel_rfl) (Eq.trans hl68 (Eq.symm hl51))) ?_)
                    intro w hI
                    refine OpsT.pures (r := []) [8, 9] [2, 5, 7, 8] (S' := [(2, .pointer (some ⟨b1, 0, none⟩)), (5, .pointer (some ⟨b2, 0, none⟩)), (7, .string y69), (8, .bool y70)]) (by kernel_rfl) ?_
                    refine OpsT.done ?_
                    have e := someS h1
                    subst e
                    exact Qn.thenJ fun a ha => ⟨y69, y70, (ApiEvent.mk x50.Kind x50.ID x50.Name x50.Time x50.Len y67), rfl, ha.keep [2, 5, 7, 8] (by kernel_rfl), hI, hl68⟩
                  · rw [if_neg hb65] at h1
                    refine CodT.no' (b := x63) (by kernel_rfl) (by simpa using hb65) ?_
                    refine CodT.skip ?_
                    have e := someS h1
                    subst e
                    exact Qn.thenJ fun a ha => ⟨x48, x49, x50, rfl, ha.keep [2, 5, 7, 8] (by kernel_rfl), hI, hl51⟩
              ·
                rintro a w ⟨x59, x60, x61, rfl, ha, hI, hl62⟩
                try dsimp only at h0
                refine CodT.of ?_ ha
                refine CodT.seq ?_
                refine CodT.regionL [0, 1, 2] (by kernel_rfl) ?_
                refine OpsT.cons (Does.yi (Yl.load (d := 90) (T := 26) (v := .agg (c_ApiEvent x61).toArray) (by kernel_rfl) (ldBN ty26 (l := c_ApiEvent x61) (o := 0) (cs := c_ApiEvent x61) (ent_refl _) (len_ApiEvent _ hl62) (whole _ _ (len_ApiEvent _ hl62)))) hI ?_)
                obtain ⟨y72, hc71, h0⟩ := bindS h0
                try dsimp only at h0
                refine OpsT.cons (Does.call (d := some 91) (n := 12) (vs := [.agg (c_ApiEvent x61).toArray]) (by kernel_rfl) en12 (c12 w0 w _ _ hI x61 hl62 _ hc71) ?_)
                rintro e w ⟨rfl, hI⟩
                refine ⟨_, rfl, ?_⟩
                refine OpsT.pures (r := []) [2] [2, 5, 7, 8, 10] (S' := [(2, .pointer (some ⟨b1, 0, none⟩)), (5, .pointer (some ⟨b2, 0, none⟩)), (7, .string x59), (8, .bool x60), (10, .bool y72)]) (by kernel_rfl) ?_
                refine OpsT.done ?_
                refine Qn.then ?_
                refine CodT.seq ?_
                obtain ⟨r1, h1, h0⟩ := bindS h0
                refine CodT.meet (fun a w => ∃ (x73 : Bool), x73 = r1 ∧ Fr 101 [(2, .pointer (some ⟨b1, 0, none⟩)), (5, .pointer (some ⟨b2, 0, none⟩)), (7, .string x59), (97, .bool x73)] a ∧ Inv w0 Z w (star (pt b2 (.cells (c_ApiEvent x61).toArray 26 (0, 0))) (star (pt b1 (.cells (c_ApiEvent (ApiEvent.mk 0 0 (⟨#[]⟩ : ByteArray) 0 0 (List.replicate 32 (0 : Int)))).toArray 26 (0, 0))) A))) ?_ ?_
                ·
                  refine CodT.regionL [0, 1, 2, 3, 4, 5] (by kernel_rfl) ?_
                  refine OpsT.pures (r := [3, 4, 5]) [0, 1, 2] [2, 5, 7, 10, 94] (S' := [(2, .pointer (some ⟨b1, 0, none⟩)), (5, .pointer (some ⟨b2, 0, none⟩)), (7, .string x59), (10, .bool y72), (94, .bool (!x60))]) (by kernel_rfl) ?_
                  by_cases hb74 : (!x60) = true
                  · rw [if_pos hb74] at h1
                    refine OpsT.keep [2, 5, 7, 10, 94] (S' := [(2, .pointer (some ⟨b1, 0, none⟩)), (5, .pointer (some ⟨b2, 0, none⟩)), (7, .string x59), (10, .bool y72), (94, .bool true)]) (by (try simp only [hb74]); kernel_rfl) ?_
                    refine OpsT.pures (r := []) [3, 4, 5] [2, 5, 7, 97] (S' := [(2, .pointer (some ⟨b1, 0, none⟩)), (5, .pointer (some ⟨b2, 0, none⟩)), (7, .string x59), (97, .bool true)]) (by kernel_rfl) ?_
                    refine OpsT.done ?_
                    have e := someS h1
                    subst e
                    exact Qn.thenJ fun a ha => ⟨true, rfl, ha.keep [2, 5, 7, 97] (by kernel_rfl), hI⟩
                  · rw [if_neg hb74] at h1
                    have hb74 : (!x60) = false := by simpa using hb74
                    refine OpsT.keep [2, 5, 7, 10, 94] (S' := [(2, .pointer (some ⟨b1, 0, none⟩)), (5, .pointer (some ⟨b2, 0, none⟩)), (7, .string x59), (10, .bool y72), (94, .bool false)]) (by (try simp only [hb74]); kernel_rfl) ?_
                    refine OpsT.pures (r := []) [3, 4, 5] [2, 5, 7, 97] (S' := [(2, .pointer (some ⟨b1, 0, none⟩)), (5, .pointer (some ⟨b2, 0, none⟩)), (7, .string x59), (97, .bool (!y72))]) (by kernel_rfl) ?_
                    refine OpsT.done ?_
                    have e := someS h1
                    subst e
                    exact Qn.thenJ fun a ha => ⟨!y72, rfl, ha.keep [2, 5, 7, 97] (by kernel_rfl), hI⟩
                ·
                  rintro a w ⟨x73, rfl, ha, hI⟩
                  try dsimp only at h0
                  refine CodT.of ?_ ha
                  by_cases hb75 : x73 = true
                  · rw [if_pos hb75] at h0
                    refine CodT.yes' (b := x73) (by kernel_rfl) hb75 ?_
                    refine CodT.seq ?_
                    refine CodT.regionL [0, 1, 2, 3] (by kernel_rfl) ?_
                    refine OpsT.pures (r := [1, 2, 3]) [0] [2, 98] (S' := [(2, .pointer (some ⟨b1, 0, none⟩)), (98, .agg (c_ApiEvent (ApiEvent.mk 0 0 (⟨#[]⟩ : ByteArray) 0 0 (List.replicate 32 (0 : Int)))).toArray)]) (by kernel_rfl) ?_
                    have hI := hI.mono (pick2 _ _ _)
                    refine OpsT.cons (Does.storeLit (T := 26) (b := b1) (o := 0) (v := .agg (c_ApiEvent (ApiEvent.mk 0 0 (⟨#[]⟩ : ByteArray) 0 0 (List.replicate 32 (0 : Int)))).toArray) (l := c_ApiEvent (ApiEvent.mk 0 0 (⟨#[]⟩ : ByteArray) 0 0 (List.replicate 32 (0 : Int)))) (vs := c_ApiEvent (ApiEvent.mk 0 0 (⟨#[]⟩ : ByteArray) 0 0 (List.replicate 32 (0 : Int)))) (L' := c_ApiEvent (ApiEvent.mk 0 0 (⟨#[]⟩ : ByteArray) 0 0 (List.replicate 32 (0 : Int)))) (by kernel_rfl) ty26 hI (by kernel_rfl) (len_ApiEvent _ (by kernel_rfl)) (by rw [(len_ApiEvent _ (by kernel_rfl))]; kernel_rfl) (ones_app _ _ (by kernel_rfl) (ones_cA _)) (lset_all _ _ (Eq.trans (len_ApiEvent _ (by kernel_rfl)) (Eq.symm (len_ApiEvent _ (by kernel_rfl))))) ?_)
                    intro w hI
                    refine OpsT.pures (r := []) [2, 3] [2, 3, 4] (S' := [(2, .pointer (some ⟨b1, 0, none⟩)), (3, .string (⟨#[]⟩ : ByteArray)), (4, .bool false)]) (by kernel_rfl) ?_
                    refine OpsT.done ?_
                    refine Qn.then ?_
                    refine CodT.ret ?_
                    refine Qn.ret_then ?_
                    have hL76 := (ldBN ty26 (l := c_ApiEvent (ApiEvent.mk 0 0 (⟨#[]⟩ : ByteArray) 0 0 (List.replicate 32 (0 : Int)))) (o := 0) (cs := c_ApiEvent (ApiEvent.mk 0 0 (⟨#[]⟩ : ByteArray) 0 0 (List.replicate 32 (0 : Int)))) (ent_refl _) (len_ApiEvent _ (by kernel_rfl)) (whole _ _ (len_ApiEvent _ (by kernel_rfl)))) w hI
                    have hI := hI.drop
                    have hI := hI.drop
                    have e := someS h0
                    subst e
                    refine Qn.keep [2, 3, 4] (S' := [(2, .pointer (some ⟨b1, 0, none⟩)), (3, .string (⟨#[]⟩ : ByteArray)), (4, .bool false)]) (by kernel_rfl) ?_
                    exact post_ret (v := .tuple #[.agg (c_ApiEvent (ApiEvent.mk 0 0 (⟨#[]⟩ : ByteArray) 0 0 (List.replicate 32 (0 : Int)))).toArray, .string (⟨#[]⟩ : ByteArray), .bool false]) (fun a ha => RunRes.run (vs := [.agg (c_ApiEvent (ApiEvent.mk 0 0 (⟨#[]⟩ : ByteArray) 0 0 (List.replicate 32 (0 : Int)))).toArray, .string (⟨#[]⟩ : ByteArray), .bool false]) (.cell (t := 2) (T := 26) (ad := ⟨b1, 0, none⟩) (by kernel_rfl) hL76 (.tmp (t := 3) (by kernel_rfl) (.tmp (t := 4) (by kernel_rfl) .nil))) ha (by kernel_rfl)) ⟨rfl, (by kernel_rfl), hI⟩
                  · rw [if_neg hb75] at h0
                    refine CodT.no' (b := x73) (by kernel_rfl) (by simpa using hb75) ?_
                    refine CodT.skip ?_
                    refine Qn.then ?_
                    refine CodT.seq ?_
                    refine CodT.regionL [0, 1, 2, 3, 4] (by kernel_rfl) ?_
                    refine OpsT.cons (Does.yi (Yl.load (d := 99) (T := 26) (v := .agg (c_ApiEvent x61).toArray) (by kernel_rfl) (ldBN ty26 (l := c_ApiEvent x61) (o := 0) (cs := c_ApiEvent x61) (ent_refl _) (len_ApiEvent _ hl62) (whole _ _ (len_ApiEvent _ hl62)))) hI ?_)
                    refine OpsT.pures (r := [2, 3, 4]) [1] [2, 99, 100] (S' := [(2, .pointer (some ⟨b1, 0, none⟩)), (99, .agg (c_ApiEvent x61).toArray), (100, .string x59)]) (by kernel_rfl) ?_
                    have hI := hI.mono (pick2 _ _ _)
                    refine OpsT.cons (Does.storeLit (T := 26) (b := b1) (o := 0) (v := .agg (c_ApiEvent x61).toArray) (l := c_ApiEvent (ApiEvent.mk 0 0 (⟨#[]⟩ : ByteArray) 0 0 (List.replicate 32 (0 : Int)))) (vs := c_ApiEvent x61) (L' := c_ApiEvent x61) (by kernel_rfl) ty26 hI (by kernel_rfl) (len_ApiEvent _ hl62) (by rw [(len_ApiEvent _ (by kernel_rfl))]; kernel_rfl) (ones_app _ _ (by kernel_rfl) (ones_cA _)) (lset_all _ _ (Eq.trans (len_ApiEvent _ hl62) (Eq.symm (len_ApiEvent _ (by kernel_rfl))))) ?_)
                    intro w hI
                    refine OpsT.pures (r := []) [3, 4] [2, 3, 4] (S' := [(2, .pointer (some ⟨b1, 0, none⟩)), (3, .string x59), (4, .bool true)]) (by kernel_rfl) ?_
                    refine OpsT.done ?_
                    refine Qn.then ?_
                    refine CodT.ret ?_
                    have hL77 := (ldBN ty26 (l := c_ApiEvent x61) (o := 0) (cs := c_ApiEvent x61) (ent_refl _) (len_ApiEvent _ hl62) (whole _ _ (len_ApiEvent _ hl62))) w hI
                    have hI := hI.drop
                    have hI := hI.drop
                    have e := someS h0
                    subst e
                    refine Qn.keep [2, 3, 4] (S' := [(2, .pointer (some ⟨b1, 0, none⟩)), (3, .string x59), (4, .bool true)]) (by kernel_rfl) ?_
                    exact post_ret (v := .tuple #[.agg (c_ApiEvent x61).toArray, .string x59, .bool true]) (fun a ha => RunRes.run (vs := [.agg (c_ApiEvent x61).toArray, .string x59, .bool true]) (.cell (t := 2) (T := 26) (ad := ⟨b1, 0, none⟩) (by kernel_rfl) hL77 (.tmp (t := 3) (by kernel_rfl) (.tmp (t := 4) (by kernel_rfl) .nil))) ha (by kernel_rfl)) ⟨rfl, hl62, hI⟩
end Go.Cen
