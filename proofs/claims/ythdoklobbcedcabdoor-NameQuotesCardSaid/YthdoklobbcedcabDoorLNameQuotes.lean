/- The walk of the law NameQuotes, printed by a program of ours. -/
import Derived.Test.YthdoklobbcedcabDoorWx1
set_option linter.unusedVariables false
set_option linter.unusedSimpArgs false
namespace Go.Cen
set_option maxRecDepth 100000 in
set_option maxHeartbeats 4000000 in
/-- cenotaph/cenotaphlaw03.NameQuotes -/
theorem c3 (w0 w : World) (Z : Hp) (A : HP) (hI : Inv w0 Z w A) (hT : Tabs Z) (a0 : ByteArray) (a1 : ByteArray) (r : Bool) (h0 : law03_NameQuotes a0 a1 = some r) :
    Calls prog 3 #[.string a0, .string a1] w (fun e w' => e = .returned (.bool r) ∧ Inv w0 Z w' A) := by
  have e4 := calls_intro (R := (fun e w' => e = .returned (.bool r) ∧ Inv w0 Z w' A)) (w := w) (args := [.string a0, .string a1]) (fn := Go.Proofs.Tryd.f3) 69 Go.Proofs.Tryd.func3 (by rfl) Go.Proofs.Tryd.ntmps3 (by kernel_rfl)
  refine e4 ?_
  clear e4
  unfold law03_NameQuotes at h0
  refine CodT.seq ?_
  refine CodT.regionL [0] (by kernel_rfl) ?_
  refine OpsT.pures (r := []) [0] [0, 1] (S' := [(0, .string a0), (1, .string a1)]) (by kernel_rfl) ?_
  refine OpsT.done ?_
  refine Qn.then ?_
  refine CodT.seq ?_
  refine CodT.regionL [0, 1] (by kernel_rfl) ?_
  obtain ⟨y2, hc1, h0⟩ := bindS h0
  try dsimp only at h0
  refine OpsT.cons (Does.call (d := some 11) (n := 8) (vs := []) (by kernel_rfl) en8 (c8 w0 w _ _ hI hT _ hc1) ?_)
  rintro e w ⟨rfl, hI⟩
  refine ⟨_, rfl, ?_⟩
  refine OpsT.pures (r := []) [1] [0, 1, 5] (S' := [(0, .string a0), (1, .string a1), (5, .bool y2)]) (by kernel_rfl) ?_
  refine OpsT.done ?_
  refine Qn.then ?_
  refine CodT.seq ?_
  refine CodT.seq ?_
  refine CodT.regionL [0, 1] (by kernel_rfl) ?_
  refine OpsT.pures (r := []) [0, 1] [0, 1, 5, 13] (S' := [(0, .string a0), (1, .string a1), (5, .bool y2), (13, .bool (!y2))]) (by kernel_rfl) ?_
  refine OpsT.done ?_
  refine Qn.then ?_
  by_cases hb3 : (!y2) = true
  · rw [if_pos hb3] at h0
    refine CodT.yes' (b := !y2) (by kernel_rfl) hb3 ?_
    refine CodT.seq ?_
    refine CodT.regionL [0] (by kernel_rfl) ?_
    refine OpsT.pures (r := []) [0] [4] (S' := [(4, .bool false)]) (by kernel_rfl) ?_
    refine OpsT.done ?_
    refine Qn.then ?_
    refine CodT.ret ?_
    refine Qn.ret_then ?_
    have e := someS h0
    subst e
    refine Qn.keep [4] (S' := [(4, .bool false)]) (by kernel_rfl) ?_
    exact post_ret (v := .bool false) (fun a ha => RunRes.run (vs := [.bool false]) (.tmp (t := 4) (by kernel_rfl) .nil) ha (by kernel_rfl)) ⟨rfl, hI⟩
  · rw [if_neg hb3] at h0
    refine CodT.no' (b := !y2) (by kernel_rfl) (by simpa using hb3) ?_
    refine CodT.skip ?_
    refine Qn.then ?_
    refine CodT.seq ?_
    obtain ⟨r1, h1, h0⟩ := bindS h0
    refine CodT.meet (fun a w => ∃ (x4 : Bool), x4 = r1 ∧ Fr 69 [(0, .string a0), (1, .string a1), (5, .bool y2), (21, .bool x4)] a ∧ Inv w0 Z w A) ?_ ?_
    ·
      refine CodT.regionL [0, 1, 2, 3, 4, 5, 6, 7] (by kernel_rfl) ?_
      refine OpsT.pures (r := [4, 5, 6, 7]) [0, 1, 2, 3] [0, 1, 5, 17] (S' := [(0, .string a0), (1, .string a1), (5, .bool y2), (17, .bool (decide ((a0.size : Int) > 200)))]) (by kernel_rfl) ?_
      by_cases hb5 : (decide ((a0.size : Int) > 200)) = true
      · rw [if_pos hb5] at h1
        refine OpsT.keep [0, 1, 5, 17] (S' := [(0, .string a0), (1, .string a1), (5, .bool y2), (17, .bool true)]) (by simp only [hb5]; kernel_rfl) ?_
        refine OpsT.pures (r := []) [4, 5, 6, 7] [0, 1, 5, 21] (S' := [(0, .string a0), (1, .string a1), (5, .bool y2), (21, .bool true)]) (by kernel_rfl) ?_
        refine OpsT.done ?_
        have e := someS h1
        subst e
        exact Qn.thenJ fun a ha => ⟨true, rfl, ha.keep [0, 1, 5, 21] (by kernel_rfl), hI⟩
      · rw [if_neg hb5] at h1
        have hb5 : (decide ((a0.size : Int) > 200)) = false := by simpa using hb5
        refine OpsT.keep [0, 1, 5, 17] (S' := [(0, .string a0), (1, .string a1), (5, .bool y2), (17, .bool false)]) (by simp only [hb5]; kernel_rfl) ?_
        refine OpsT.pures (r := []) [4, 5, 6, 7] [0, 1, 5, 21] (S' := [(0, .string a0), (1, .string a1), (5, .bool y2), (21, .bool (decide ((a1.size : Int) > 200)))]) (by kernel_rfl) ?_
        refine OpsT.done ?_
        have e := someS h1
        subst e
        exact Qn.thenJ fun a ha => ⟨decide ((a1.size : Int) > 200), rfl, ha.keep [0, 1, 5, 21] (by kernel_rfl), hI⟩
    ·
      rintro a w ⟨x4, rfl, ha, hI⟩
      try dsimp only at h0
      refine CodT.of ?_ ha
      by_cases hb6 : x4 = true
      · rw [if_pos hb6] at h0
        refine CodT.yes' (b := x4) (by kernel_rfl) hb6 ?_
        refine CodT.seq ?_
        refine CodT.regionL [0, 1] (by kernel_rfl) ?_
        refine OpsT.pures (r := []) [0, 1] [4] (S' := [(4, .bool y2)]) (by kernel_rfl) ?_
        refine OpsT.done ?_
        refine Qn.then ?_
        refine CodT.ret ?_
        refine Qn.ret_then ?_
        have e := someS h0
        subst e
        refine Qn.keep [4] (S' := [(4, .bool y2)]) (by kernel_rfl) ?_
        exact post_ret (v := .bool y2) (fun a ha => RunRes.run (vs := [.bool y2]) (.tmp (t := 4) (by kernel_rfl) .nil) ha (by kernel_rfl)) ⟨rfl, hI⟩
      · rw [if_neg hb6] at h0
        refine CodT.no' (b := x4) (by kernel_rfl) (by simpa using hb6) ?_
        refine CodT.skip ?_
        refine Qn.then ?_
        refine CodT.seq ?_
        refine CodT.regionL [0, 1, 2] (by kernel_rfl) ?_
        refine OpsT.pures (r := [1, 2]) [0] [0, 1, 5, 23] (S' := [(0, .string a0), (1, .string a1), (5, .bool y2), (23, .string a0)]) (by kernel_rfl) ?_
        obtain ⟨y8, hc7, h0⟩ := bindS h0
        try dsimp only at h0
        refine OpsT.cons (Does.call (d := some 24) (n := 9) (vs := [.string a0]) (by kernel_rfl) en9 (c9 w0 w _ _ hI hT a0 _ hc7) ?_)
        rintro e w ⟨rfl, hI⟩
        refine ⟨_, rfl, ?_⟩
        refine OpsT.pures (r := []) [2] [0, 1, 5, 6] (S' := [(0, .string a0), (1, .string a1), (5, .bool y2), (6, .string y8)]) (by kernel_rfl) ?_
        refine OpsT.done ?_
        refine Qn.then ?_
        refine CodT.seq ?_
        refine CodT.regionL [0, 1, 2, 3, 4, 5, 6] (by kernel_rfl) ?_
        refine OpsT.pures (r := [1, 2, 3, 4, 5, 6]) [0] [0, 1, 5, 6, 26] (S' := [(0, .string a0), (1, .string a1), (5, .bool y2), (6, .string y8), (26, .string y8)]) (by kernel_rfl) ?_
        obtain ⟨⟨y10, y11⟩, hc9, h0⟩ := bindS h0
        try dsimp only at h0
        refine OpsT.cons (Does.call (d := some 27) (n := 10) (vs := [.string y8]) (by kernel_rfl) en10 (c10 w0 w _ _ hI hT y8 _ hc9) ?_)
        rintro e w ⟨rfl, hI⟩
        refine ⟨_, rfl, ?_⟩
        refine OpsT.pures (r := []) [2, 3, 4, 5, 6] [0, 1, 5, 6, 7, 8] (S' := [(0, .string a0), (1, .string a1), (5, .bool y2), (6, .string y8), (7, .string y10), (8, .bool y11)]) (by kernel_rfl) ?_
        refine OpsT.done ?_
        refine Qn.then ?_
        refine CodT.seq ?_
        refine CodT.regionL [0, 1, 2] (by kernel_rfl) ?_
        refine OpsT.pures (r := [1, 2]) [0] [0, 1, 5, 6, 7, 8, 30] (S' := [(0, .string a0), (1, .string a1), (5, .bool y2), (6, .string y8), (7, .string y10), (8, .bool y11), (30, .string y8)]) (by kernel_rfl) ?_
        obtain ⟨y13, hc12, h0⟩ := bindS h0
        try dsimp only at h0
        refine OpsT.cons (Does.call (d := some 31) (n := 11) (vs := [.string y8]) (by kernel_rfl) en11 (c11 w0 w _ _ hI hT y8 _ hc12) ?_)
        rintro e w ⟨A14, cp15, rfl, hI⟩
        refine ⟨_, rfl, ?_⟩
        refine OpsT.pures (r := []) [2] [0, 1, 5, 6, 7, 8, 9] (S' := [(0, .string a0), (1, .string a1), (5, .bool y2), (6, .string y8), (7, .string y10), (8, .bool y11), (9, .slice A14 y13.length cp15)]) (by kernel_rfl) ?_
        refine OpsT.done ?_
        refine Qn.then ?_
        refine CodT.seq ?_
        refine CodT.seq ?_
        refine CodT.regionL [0] (by kernel_rfl) ?_
        refine OpsT.pures (r := []) [0] [0, 1, 5, 6, 7, 8, 9, 10] (S' := [(0, .string a0), (1, .string a1), (5, .bool y2), (6, .string y8), (7, .string y10), (8, .bool y11), (9, .slice A14 y13.length cp15), (10, .int .i64 0)]) (by kernel_rfl) ?_
        refine OpsT.done ?_
        refine Qn.then ?_
        obtain ⟨r1, h1, h0⟩ := bindS h0
        refine CodT.meet1 (fun a w => .inr () = r1 ∧ Fr 69 [(0, .string a0), (1, .string a1), (5, .bool y2), (6, .string y8), (7, .string y10), (8, .bool y11)] a ∧ Inv w0 Z w A) ?_ ?_
        ·
          refine CodT.block ?_
          refine (fun a ha => wp_loopN (fun k a w => ∃ (x16 : Int), law03_NameQuotes.l0 y13 k x16 = some r1 ∧ Fr 69 [(0, .string a0), (1, .string a1), (5, .bool y2), (6, .string y8), (7, .string y10), (8, .bool y11), (9, .slice A14 y13.length cp15), (10, .int .i64 x16)] a ∧ Inv w0 Z w (star (ownS 3 (cI .i64) 1 A14 cp15 y13) A)) ?_ FU a w ⟨0, h1, ha.keep [0, 1, 5, 6, 7, 8, 9, 10] (by kernel_rfl), hI⟩)
          clear h1 hI
          rintro k a w ⟨x16, h1, ha, hI⟩
          rcases k with _ | k
          · cases h1
          simp only [law03_NameQuotes.l0] at h1
          refine CodT.of ?_ ha
          refine CodT.seq ?_
          refine CodT.seq ?_
          refine CodT.regionL [0, 1, 2, 3] (by kernel_rfl) ?_
          refine OpsT.pures (r := []) [0, 1, 2, 3] [0, 1, 5, 6, 7, 8, 9, 10, 35] (S' := [(0, .string a0), (1, .string a1), (5, .bool y2), (6, .string y8), (7, .string y10), (8, .bool y11), (9, .slice A14 y13.length cp15), (10, .int .i64 x16), (35, .bool (decide (x16 < (y13.length : Int))))]) (by kernel_rfl) ?_
          refine OpsT.done ?_
          refine Qn.then ?_
          by_cases hb17 : (decide (x16 < (y13.length : Int))) = true
          · rw [if_pos hb17] at h1
            refine CodT.yes' (b := decide (x16 < (y13.length : Int))) (by kernel_rfl) hb17 ?_
            refine CodT.skip ?_
            refine Qn.then ?_
            refine CodT.seq ?_
            refine CodT.block ?_
            obtain ⟨r2, h2, h1⟩ := bindS h1
            refine CodT.meet (fun a w => ∃ (x18 : Bool), x18 = r2 ∧ Fr 69 [(0, .string a0), (1, .string a1), (5, .bool y2), (6, .string y8), (7, .string y10), (8, .bool y11), (9, .slice A14 y13.length cp15), (10, .int .i64 x16), (49, .bool x18)] a ∧ Inv w0 Z w (star (ownS 3 (cI .i64) 1 A14 cp15 y13) A)) ?_ ?_
            ·
              refine CodT.regionL [0, 1, 2, 3, 4, 5, 6, 7, 8, 9, 10, 11] (by kernel_rfl) ?_
              refine OpsT.pures (r := [2, 3, 4, 5, 6, 7, 8, 9, 10, 11]) [0, 1] [0, 1, 5, 6, 7, 8, 9, 10, 38, 39] (S' := [(0, .string a0), (1, .string a1), (5, .bool y2), (6, .string y8), (7, .string y10), (8, .bool y11), (9, .slice A14 y13.length cp15), (10, .int .i64 x16), (38, .slice A14 y13.length cp15), (39, .int .i64 x16)]) (by kernel_rfl) ?_
              obtain ⟨hg19, h2⟩ := guardS h2
              obtain ⟨g20, hA21, hr22, hl23⟩ := ownS_get hI hg19.1 hg19.2
              refine OpsT.cons (Does.yi (Yl.indexSlice (d := 40) (T := 26) (cc := cp15) (k := .i64) (j := x16) (g := g20) (o := 0) (by kernel_rfl) Go.Proofs.Tryd.underlying26 ty3 hA21 hg19.1 hg19.2) hI ?_)
              refine OpsT.cons (Does.yi (Yl.load (d := 41) (T := 3) (v := .int .i64 (gt y13 x16)) (by kernel_rfl) (ldR ty3 (v := .int .i64 (gt y13 x16)) 0 (fun w hC => hr22 w0 w _ hC) (by kernel_rfl))) hI ?_)
              refine OpsT.pures (r := [6, 7, 8, 9, 10, 11]) [4, 5] [0, 1, 5, 6, 7, 8, 9, 10, 43] (S' := [(0, .string a0), (1, .string a1), (5, .bool y2), (6, .string y8), (7, .string y10), (8, .bool y11), (9, .slice A14 y13.length cp15), (10, .int .i64 x16), (43, .bool (decide ((gt y13 x16) < 32)))]) (by kernel_rfl) ?_
              by_cases hb24 : (decide ((gt y13 x16) < 32)) = true
              · rw [if_pos hb24] at h2
                refine OpsT.keep [0, 1, 5, 6, 7, 8, 9, 10, 43] (S' := [(0, .string a0), (1, .string a1), (5, .bool y2), (6, .string y8), (7, .string y10), (8, .bool y11), (9, .slice A14 y13.length cp15), (10, .int .i64 x16), (43, .bool true)]) (by simp only [hb24]; kernel_rfl) ?_
                refine OpsT.pures (r := []) [6, 7, 8, 9, 10, 11] [0, 1, 5, 6, 7, 8, 9, 10, 49] (S' := [(0, .string a0), (1, .string a1), (5, .bool y2), (6, .string y8), (7, .string y10), (8, .bool y11), (9, .slice A14 y13.length cp15), (10, .int .i64 x16), (49, .bool true)]) (by kernel_rfl) ?_
                refine OpsT.done ?_
                have e := someS h2
                subst e
                exact Qn.thenJ fun a ha => ⟨true, rfl, ha.keep [0, 1, 5, 6, 7, 8, 9, 10, 49] (by kernel_rfl), hI⟩
              · rw [if_neg hb24] at h2
                have hb24 : (decide ((gt y13 x16) < 32)) = false := by simpa using hb24
                refine OpsT.keep [0, 1, 5, 6, 7, 8, 9, 10, 43] (S' := [(0, .string a0), (1, .string a1), (5, .bool y2), (6, .string y8), (7, .string y10), (8, .bool y11), (9, .slice A14 y13.length cp15), (10, .int .i64 x16), (43, .bool false)]) (by simp only [hb24]; kernel_rfl) ?_
                refine OpsT.pures (r := [8, 9, 10, 11]) [6, 7] [0, 1, 5, 6, 7, 8, 9, 10, 43, 44, 45] (S' := [(0, .string a0), (1, .string a1), (5, .bool y2), (6, .string y8), (7, .string y10), (8, .bool y11), (9, .slice A14 y13.length cp15), (10, .int .i64 x16), (43, .bool false), (44, .slice A14 y13.length cp15), (45, .int .i64 x16)]) (by kernel_rfl) ?_
                obtain ⟨hg25, h2⟩ := guardS h2
                obtain ⟨g26, hA27, hr28, hl29⟩ := ownS_get hI hg25.1 hg25.2
                refine OpsT.cons (Does.yi (Yl.indexSlice (d := 46) (T := 26) (cc := cp15) (k := .i64) (j := x16) (g := g26) (o := 0) (by kernel_rfl) Go.Proofs.Tryd.underlying26 ty3 hA27 hg25.1 hg25.2) hI ?_)
                refine OpsT.cons (Does.yi (Yl.load (d := 47) (T := 3) (v := .int .i64 (gt y13 x16)) (by kernel_rfl) (ldR ty3 (v := .int .i64 (gt y13 x16)) 0 (fun w hC => hr28 w0 w _ hC) (by kernel_rfl))) hI ?_)
                refine OpsT.pures (r := []) [10, 11] [0, 1, 5, 6, 7, 8, 9, 10, 49] (S' := [(0, .string a0), (1, .string a1), (5, .bool y2), (6, .string y8), (7, .string y10), (8, .bool y11), (9, .slice A14 y13.length cp15), (10, .int .i64 x16), (49, .bool (decide ((gt y13 x16) ≥ 1114112)))]) (by kernel_rfl) ?_
                refine OpsT.done ?_
                have e := someS h2
                subst e
                exact Qn.thenJ fun a ha => ⟨decide ((gt y13 x16) ≥ 1114112), rfl, ha.keep [0, 1, 5, 6, 7, 8, 9, 10, 49] (by kernel_rfl), hI⟩
            ·
              rintro a w ⟨x18, rfl, ha, hI⟩
              try dsimp only at h1
              refine CodT.of ?_ ha
              by_cases hb30 : x18 = true
              · rw [if_pos hb30] at h1
                refine CodT.yes' (b := x18) (by kernel_rfl) hb30 ?_
                refine CodT.seq ?_
                refine CodT.regionL [0] (by kernel_rfl) ?_
                refine OpsT.pures (r := []) [0] [4] (S' := [(4, .bool false)]) (by kernel_rfl) ?_
                refine OpsT.done ?_
                refine Qn.then ?_
                refine CodT.ret ?_
                refine Qn.block_ret ?_
                refine Qn.ret_then ?_
                refine Qn.ret_then ?_
                refine Qn.block_ret ?_
                refine Qn.ret_then ?_
                refine Qn.ret_then ?_
                have hI := hI.drop
                have e := someS h1
                subst e
                try dsimp only at h0
                have e := someS h0
                subst e
                refine Qn.keep [4] (S' := [(4, .bool false)]) (by kernel_rfl) ?_
                exact post_ret (v := .bool false) (fun a ha => RunRes.run (vs := [.bool false]) (.tmp (t := 4) (by kernel_rfl) .nil) ha (by kernel_rfl)) ⟨rfl, hI⟩
              · rw [if_neg hb30] at h1
                refine CodT.no' (b := x18) (by kernel_rfl) (by simpa using hb30) ?_
                refine CodT.skip ?_
                refine Qn.block_normal ?_
                refine Qn.then ?_
                refine CodT.regionL [0, 1, 2] (by kernel_rfl) ?_
                refine OpsT.pures (r := []) [0, 1, 2] [0, 1, 5, 6, 7, 8, 9, 10] (S' := [(0, .string a0), (1, .string a1), (5, .bool y2), (6, .string y8), (7, .string y10), (8, .bool y11), (9, .slice A14 y13.length cp15), (10, .int .i64 (wi64 (x16 + 1)))]) (by kernel_rfl) ?_
                refine OpsT.done ?_
                exact Qn.thenJ fun a ha => ⟨k, Nat.lt_succ_self k, wi64 (x16 + 1), h1, ha.keep [0, 1, 5, 6, 7, 8, 9, 10] (by kernel_rfl), hI⟩
          · rw [if_neg hb17] at h1
            refine CodT.no' (b := decide (x16 < (y13.length : Int))) (by kernel_rfl) (by simpa using hb17) ?_
            refine CodT.exit ?_
            refine Qn.exit_then ?_
            refine Qn.exit_then ?_
            refine Qn.block ?_
            have hI := hI.drop
            have e := someS h1
            subst e
            exact Qn.thenJ fun a ha => ⟨rfl, ha.keep [0, 1, 5, 6, 7, 8] (by kernel_rfl), hI⟩
        ·
          rintro a w ⟨rfl, ha, hI⟩
          try dsimp only at h0
          refine Qn.of ?_ ha
          refine Qn.then ?_
          obtain ⟨r1, h1, h0⟩ := bindS h0
          refine CodT.meet (fun a w => ∃ (x31 : Bool), x31 = r1 ∧ Fr 69 [(4, .bool x31)] a ∧ Inv w0 Z w A) ?_ ?_
          ·
            refine CodT.regionL [0, 1, 2, 3, 4, 5, 6, 7, 8, 9, 10, 11, 12, 13, 14, 15, 16, 17, 18, 19] (by kernel_rfl) ?_
            refine OpsT.pures (r := [2, 3, 4, 5, 6, 7, 8, 9, 10, 11, 12, 13, 14, 15, 16, 17, 18, 19]) [0, 1] [0, 1, 6, 7, 8, 51] (S' := [(0, .string a0), (1, .string a1), (6, .string y8), (7, .string y10), (8, .bool y11), (51, .bool y2)]) (by kernel_rfl) ?_
            by_cases hb32 : y2 = true
            · rw [if_pos hb32] at h1
              refine OpsT.keep [0, 1, 6, 7, 8, 51] (S' := [(0, .string a0), (1, .string a1), (6, .string y8), (7, .string y10), (8, .bool y11), (51, .bool true)]) (by simp only [hb32]; kernel_rfl) ?_
              refine OpsT.pures (r := [7, 8, 9, 10, 11, 12, 13, 14, 15, 16, 17, 18, 19]) [2, 3, 4, 5, 6] [0, 1, 6, 8, 56] (S' := [(0, .string a0), (1, .string a1), (6, .string y8), (8, .bool y11), (56, .bool (seq y10 a0))]) (by kernel_rfl) ?_
              by_cases hb33 : (seq y10 a0) = true
              · rw [if_pos hb33] at h1
                refine OpsT.keep [0, 1, 6, 8, 56] (S' := [(0, .string a0), (1, .string a1), (6, .string y8), (8, .bool y11), (56, .bool true)]) (by simp only [hb33]; kernel_rfl) ?_
                refine OpsT.pures (r := [10, 11, 12, 13, 14, 15, 16, 17, 18, 19]) [7, 8, 9] [0, 1, 6, 59] (S' := [(0, .string a0), (1, .string a1), (6, .string y8), (59, .bool y11)]) (by kernel_rfl) ?_
                by_cases hb34 : y11 = true
                · rw [if_pos hb34] at h1
                  refine OpsT.keep [0, 1, 6, 59] (S' := [(0, .string a0), (1, .string a1), (6, .string y8), (59, .bool true)]) (by simp only [hb34]; kernel_rfl) ?_
                  refine OpsT.pures (r := [12, 13, 14, 15, 16, 17, 18, 19]) [10, 11] [0, 1, 59, 60, 61] (S' := [(0, .string a0), (1, .string a1), (59, .bool true), (60, .string y8), (61, .string a1)]) (by kernel_rfl) ?_
                  obtain ⟨y36, hc35, h1⟩ := bindS h1
                  try dsimp only at h1
                  refine OpsT.cons (Does.call (d := some 62) (n := 9) (vs := [.string a1]) (by kernel_rfl) en9 (c9 w0 w _ _ hI hT a1 _ hc35) ?_)
                  rintro e w ⟨rfl, hI⟩
                  refine ⟨_, rfl, ?_⟩
                  refine OpsT.pures (r := []) [13, 14, 15, 16, 17, 18, 19] [4] (S' := [(4, .bool ((seq y8 y36) == (seq a0 a1)))]) (by kernel_rfl) ?_
                  refine OpsT.done ?_
                  have e := someS h1
                  subst e
                  exact Qn.thenJ fun a ha => ⟨(seq y8 y36) == (seq a0 a1), rfl, ha.keep [4] (by kernel_rfl), hI⟩
                · rw [if_neg hb34] at h1
                  have hb34 : y11 = false := by simpa using hb34
                  refine OpsT.keep [0, 1, 6, 59] (S' := [(0, .string a0), (1, .string a1), (6, .string y8), (59, .bool false)]) (by simp only [hb34]; kernel_rfl) ?_
                  refine OpsT.pures (r := []) [10, 11, 12, 13, 14, 15, 16, 17, 18, 19] [4] (S' := [(4, .bool false)]) (by kernel_rfl) ?_
                  refine OpsT.done ?_
                  have e := someS h1
                  subst e
                  exact Qn.thenJ fun a ha => ⟨false, rfl, ha.keep [4] (by kernel_rfl), hI⟩
              · rw [if_neg hb33] at h1
                have hb33 : (seq y10 a0) = false := by simpa using hb33
                refine OpsT.keep [0, 1, 6, 8, 56] (S' := [(0, .string a0), (1, .string a1), (6, .string y8), (8, .bool y11), (56, .bool false)]) (by simp only [hb33]; kernel_rfl) ?_
                refine OpsT.pures (r := []) [7, 8, 9, 10, 11, 12, 13, 14, 15, 16, 17, 18, 19] [4] (S' := [(4, .bool false)]) (by kernel_rfl) ?_
                refine OpsT.done ?_
                have e := someS h1
                subst e
                exact Qn.thenJ fun a ha => ⟨false, rfl, ha.keep [4] (by kernel_rfl), hI⟩
            · rw [if_neg hb32] at h1
              have hb32 : y2 = false := by simpa using hb32
              refine OpsT.keep [0, 1, 6, 7, 8, 51] (S' := [(0, .string a0), (1, .string a1), (6, .string y8), (7, .string y10), (8, .bool y11), (51, .bool false)]) (by simp only [hb32]; kernel_rfl) ?_
              refine OpsT.pures (r := []) [2, 3, 4, 5, 6, 7, 8, 9, 10, 11, 12, 13, 14, 15, 16, 17, 18, 19] [4] (S' := [(4, .bool false)]) (by kernel_rfl) ?_
              refine OpsT.done ?_
              have e := someS h1
              subst e
              exact Qn.thenJ fun a ha => ⟨false, rfl, ha.keep [4] (by kernel_rfl), hI⟩
          ·
            rintro a w ⟨x31, rfl, ha, hI⟩
            try dsimp only at h0
            refine CodT.of ?_ ha
            refine CodT.ret ?_
            have e := someS h0
            subst e
            refine Qn.keep [4] (S' := [(4, .bool x31)]) (by kernel_rfl) ?_
            exact post_ret (v := .bool x31) (fun a ha => RunRes.run (vs := [.bool x31]) (.tmp (t := 4) (by kernel_rfl) .nil) ha (by kernel_rfl)) ⟨rfl, hI⟩
end Go.Cen
