/- The walk of the law RuleTells, printed by a program of ours. -/
import Derived.Test.YthdoklobbcedcacDoorPx
import Derived.Test.YthdoklobbcedcacDoorWx1
set_option linter.unusedVariables false
set_option linter.unusedSimpArgs false
namespace Go.Cen
set_option maxRecDepth 100000 in
set_option maxHeartbeats 4000000 in
/-- cenotaph/cenotaphlaw07.RuleTells -/
theorem c3 (w0 w : World) (Z : Hp) (A : HP) (hI : Inv w0 Z w A) (hT : Tabs Z) (A_a0 : Option Addr) (c_a0 : Nat) (a0 : (List ApiFile)) (hr_a0 : RdX_ApiFile Z A_a0 c_a0 a0) (a1 : Int) (a2 : Int) (r : Bool) (h0 : law07_RuleTells a0 a1 a2 = some r) :
    Calls prog 3 #[.slice A_a0 a0.length c_a0, .int .i64 a1, .int .i64 a2] w (fun e w' => e = .returned (.bool r) ∧ Inv w0 Z w' A) := by
  have e4 := calls_intro (R := (fun e w' => e = .returned (.bool r) ∧ Inv w0 Z w' A)) (w := w) (args := [.slice A_a0 a0.length c_a0, .int .i64 a1, .int .i64 a2]) (fn := Go.Proofs.Tryd.f3) 83 Go.Proofs.Tryd.func3 (by rfl) Go.Proofs.Tryd.ntmps3 (by kernel_rfl)
  refine e4 ?_
  clear e4
  unfold law07_RuleTells at h0
  refine CodT.seq ?_
  refine CodT.regionL [0] (by kernel_rfl) ?_
  refine OpsT.pures (r := []) [0] [0, 1, 2] (S' := [(0, .slice A_a0 a0.length c_a0), (1, .int .i64 a1), (2, .int .i64 a2)]) (by kernel_rfl) ?_
  refine OpsT.done ?_
  refine Qn.then ?_
  refine CodT.seq ?_
  refine CodT.regionL [0, 1] (by kernel_rfl) ?_
  obtain ⟨y2, hc1, h0⟩ := bindS h0
  try dsimp only at h0
  refine OpsT.cons (Does.call (d := some 11) (n := 10) (vs := []) (by kernel_rfl) en10 (c10 w0 w _ _ hI hT _ hc1) ?_)
  rintro e w ⟨rfl, hI⟩
  refine ⟨_, rfl, ?_⟩
  refine OpsT.pures (r := []) [1] [0, 1, 2, 7] (S' := [(0, .slice A_a0 a0.length c_a0), (1, .int .i64 a1), (2, .int .i64 a2), (7, .bool y2)]) (by kernel_rfl) ?_
  refine OpsT.done ?_
  refine Qn.then ?_
  refine CodT.seq ?_
  refine CodT.seq ?_
  refine CodT.regionL [0, 1] (by kernel_rfl) ?_
  refine OpsT.pures (r := []) [0, 1] [0, 1, 2, 7, 13] (S' := [(0, .slice A_a0 a0.length c_a0), (1, .int .i64 a1), (2, .int .i64 a2), (7, .bool y2), (13, .bool (!y2))]) (by kernel_rfl) ?_
  refine OpsT.done ?_
  refine Qn.then ?_
  by_cases hb3 : (!y2) = true
  · rw [if_pos hb3] at h0
    refine CodT.yes' (b := !y2) (by kernel_rfl) hb3 ?_
    refine CodT.seq ?_
    refine CodT.regionL [0] (by kernel_rfl) ?_
    refine OpsT.pures (r := []) [0] [6] (S' := [(6, .bool false)]) (by kernel_rfl) ?_
    refine OpsT.done ?_
    refine Qn.then ?_
    refine CodT.ret ?_
    refine Qn.ret_then ?_
    have e := someS h0
    subst e
    refine Qn.keep [6] (S' := [(6, .bool false)]) (by kernel_rfl) ?_
    exact post_ret (v := .bool false) (fun a ha => RunRes.run (vs := [.bool false]) (.tmp (t := 6) (by kernel_rfl) .nil) ha (by kernel_rfl)) ⟨rfl, hI⟩
  · rw [if_neg hb3] at h0
    refine CodT.no' (b := !y2) (by kernel_rfl) (by simpa using hb3) ?_
    refine CodT.skip ?_
    refine Qn.then ?_
    refine CodT.seq ?_
    refine CodT.seq ?_
    refine CodT.regionL [0, 1, 2] (by kernel_rfl) ?_
    refine OpsT.pures (r := []) [0, 1, 2] [0, 1, 2, 7, 16] (S' := [(0, .slice A_a0 a0.length c_a0), (1, .int .i64 a1), (2, .int .i64 a2), (7, .bool y2), (16, .bool (decide ((a0.length : Int) > 200)))]) (by kernel_rfl) ?_
    refine OpsT.done ?_
    refine Qn.then ?_
    by_cases hb4 : (decide ((a0.length : Int) > 200)) = true
    · rw [if_pos hb4] at h0
      refine CodT.yes' (b := decide ((a0.length : Int) > 200)) (by kernel_rfl) hb4 ?_
      refine CodT.seq ?_
      refine CodT.regionL [0, 1] (by kernel_rfl) ?_
      refine OpsT.pures (r := []) [0, 1] [6] (S' := [(6, .bool y2)]) (by kernel_rfl) ?_
      refine OpsT.done ?_
      refine Qn.then ?_
      refine CodT.ret ?_
      refine Qn.ret_then ?_
      have e := someS h0
      subst e
      refine Qn.keep [6] (S' := [(6, .bool y2)]) (by kernel_rfl) ?_
      exact post_ret (v := .bool y2) (fun a ha => RunRes.run (vs := [.bool y2]) (.tmp (t := 6) (by kernel_rfl) .nil) ha (by kernel_rfl)) ⟨rfl, hI⟩
    · rw [if_neg hb4] at h0
      refine CodT.no' (b := decide ((a0.length : Int) > 200)) (by kernel_rfl) (by simpa using hb4) ?_
      refine CodT.skip ?_
      refine Qn.then ?_
      refine CodT.seq ?_
      refine CodT.seq ?_
      refine CodT.regionL [0] (by kernel_rfl) ?_
      refine OpsT.pures (r := []) [0] [0, 1, 2, 7, 8] (S' := [(0, .slice A_a0 a0.length c_a0), (1, .int .i64 a1), (2, .int .i64 a2), (7, .bool y2), (8, .int .i64 0)]) (by kernel_rfl) ?_
      refine OpsT.done ?_
      refine Qn.then ?_
      obtain ⟨r1, h1, h0⟩ := bindS h0
      refine CodT.meet1 (fun a w => .inr () = r1 ∧ Fr 83 [(0, .slice A_a0 a0.length c_a0), (1, .int .i64 a1), (2, .int .i64 a2), (7, .bool y2)] a ∧ Inv w0 Z w A) ?_ ?_
      ·
        refine CodT.block ?_
        refine (fun a ha => wp_loopN (fun k a w => ∃ (x5 : Int), law07_RuleTells.l0 a0 y2 a1 k x5 = some r1 ∧ Fr 83 [(0, .slice A_a0 a0.length c_a0), (1, .int .i64 a1), (2, .int .i64 a2), (7, .bool y2), (8, .int .i64 x5)] a ∧ Inv w0 Z w A) ?_ FU a w ⟨0, h1, ha.keep [0, 1, 2, 7, 8] (by kernel_rfl), hI⟩)
        clear h1 hI
        rintro k a w ⟨x5, h1, ha, hI⟩
        rcases k with _ | k
        · cases h1
        simp only [law07_RuleTells.l0] at h1
        refine CodT.of ?_ ha
        refine CodT.seq ?_
        refine CodT.seq ?_
        refine CodT.regionL [0, 1, 2, 3] (by kernel_rfl) ?_
        refine OpsT.pures (r := []) [0, 1, 2, 3] [0, 1, 2, 7, 8, 21] (S' := [(0, .slice A_a0 a0.length c_a0), (1, .int .i64 a1), (2, .int .i64 a2), (7, .bool y2), (8, .int .i64 x5), (21, .bool (decide (x5 < (a0.length : Int))))]) (by kernel_rfl) ?_
        refine OpsT.done ?_
        refine Qn.then ?_
        by_cases hb6 : (decide (x5 < (a0.length : Int))) = true
        · rw [if_pos hb6] at h1
          refine CodT.yes' (b := decide (x5 < (a0.length : Int))) (by kernel_rfl) hb6 ?_
          refine CodT.skip ?_
          refine Qn.then ?_
          refine CodT.seq ?_
          refine CodT.block ?_
          refine CodT.seq ?_
          refine CodT.regionL [0, 1, 2, 3, 4, 5] (by kernel_rfl) ?_
          refine OpsT.pures (r := [2, 3, 4, 5]) [0, 1] [0, 1, 2, 7, 8, 24, 25] (S' := [(0, .slice A_a0 a0.length c_a0), (1, .int .i64 a1), (2, .int .i64 a2), (7, .bool y2), (8, .int .i64 x5), (24, .slice A_a0 a0.length c_a0), (25, .int .i64 x5)]) (by kernel_rfl) ?_
          obtain ⟨hg7, h1⟩ := guardS h1
          obtain ⟨g8, o12, A13, cp14, hA9, hr10, hr15⟩ := RdX_ApiFile.get hr_a0 hg7.1 hg7.2
          refine OpsT.cons (Does.yi (Yl.indexSlice (d := 26) (T := 22) (cc := c_a0) (k := .i64) (j := x5) (g := g8) (o := o12) (by kernel_rfl) Go.Proofs.Tryd.underlying22 ty27 hA9 hg7.1 hg7.2) hI ?_)
          refine OpsT.cons (Does.yi (Yl.load (d := 27) (T := 27) (v := .agg ((([.int .i64 ((gt a0 x5).ID), .string ((gt a0 x5).Name), .string ((gt a0 x5).Data), .bool ((gt a0 x5).Sealed), .int .i64 ((gt a0 x5).Until), .slice A13 (((gt a0 x5).Holds).length) cp14] : List Value))).toArray) (by kernel_rfl) (ldRN ty27 (cs := (([.int .i64 ((gt a0 x5).ID), .string ((gt a0 x5).Name), .string ((gt a0 x5).Data), .bool ((gt a0 x5).Sealed), .int .i64 ((gt a0 x5).Until), .slice A13 (((gt a0 x5).Holds).length) cp14] : List Value))) 0 (fun w hC => hr10 w0 w _ hC) (by kernel_rfl) (whole _ _ (by kernel_rfl)))) hI ?_)
          obtain ⟨y17, hc16, h1⟩ := bindS h1
          try dsimp only at h1
          refine OpsT.cons (Does.call (d := some 28) (n := 11) (vs := [.agg ((([.int .i64 ((gt a0 x5).ID), .string ((gt a0 x5).Name), .string ((gt a0 x5).Data), .bool ((gt a0 x5).Sealed), .int .i64 ((gt a0 x5).Until), .slice A13 (((gt a0 x5).Holds).length) cp14] : List Value))).toArray]) (by kernel_rfl) en11 (c11 w0 w _ _ hI hT ((gt a0 x5).ID) ((gt a0 x5).Name) ((gt a0 x5).Data) ((gt a0 x5).Sealed) ((gt a0 x5).Until) A13 cp14 ((gt a0 x5).Holds) hr15 _ hc16) ?_)
          rintro e w ⟨rfl, hI⟩
          refine ⟨_, rfl, ?_⟩
          refine OpsT.pures (r := []) [5] [0, 1, 2, 7, 8, 9] (S' := [(0, .slice A_a0 a0.length c_a0), (1, .int .i64 a1), (2, .int .i64 a2), (7, .bool y2), (8, .int .i64 x5), (9, .bool y17)]) (by kernel_rfl) ?_
          refine OpsT.done ?_
          refine Qn.then ?_
          refine CodT.seq ?_
          refine CodT.seq ?_
          refine CodT.regionL [0, 1] (by kernel_rfl) ?_
          refine OpsT.pures (r := []) [0, 1] [0, 1, 2, 7, 8, 30] (S' := [(0, .slice A_a0 a0.length c_a0), (1, .int .i64 a1), (2, .int .i64 a2), (7, .bool y2), (8, .int .i64 x5), (30, .bool (!y17))]) (by kernel_rfl) ?_
          refine OpsT.done ?_
          refine Qn.then ?_
          by_cases hb18 : (!y17) = true
          · rw [if_pos hb18] at h1
            refine CodT.yes' (b := !y17) (by kernel_rfl) hb18 ?_
            refine CodT.seq ?_
            refine CodT.regionL [0, 1] (by kernel_rfl) ?_
            refine OpsT.pures (r := []) [0, 1] [6] (S' := [(6, .bool y2)]) (by kernel_rfl) ?_
            refine OpsT.done ?_
            refine Qn.then ?_
            refine CodT.ret ?_
            refine Qn.ret_then ?_
            refine Qn.block_ret ?_
            refine Qn.ret_then ?_
            refine Qn.ret_then ?_
            refine Qn.block_ret ?_
            refine Qn.ret_then ?_
            refine Qn.ret_then ?_
            have e := someS h1
            subst e
            try dsimp only at h0
            have e := someS h0
            subst e
            refine Qn.keep [6] (S' := [(6, .bool y2)]) (by kernel_rfl) ?_
            exact post_ret (v := .bool y2) (fun a ha => RunRes.run (vs := [.bool y2]) (.tmp (t := 6) (by kernel_rfl) .nil) ha (by kernel_rfl)) ⟨rfl, hI⟩
          · rw [if_neg hb18] at h1
            refine CodT.no' (b := !y17) (by kernel_rfl) (by simpa using hb18) ?_
            refine CodT.skip ?_
            refine Qn.then ?_
            refine CodT.seq ?_
            refine CodT.regionL [0, 1, 2, 3, 4, 5, 6] (by kernel_rfl) ?_
            refine OpsT.pures (r := [2, 3, 4, 5, 6]) [0, 1] [0, 1, 2, 7, 8, 32, 33] (S' := [(0, .slice A_a0 a0.length c_a0), (1, .int .i64 a1), (2, .int .i64 a2), (7, .bool y2), (8, .int .i64 x5), (32, .slice A_a0 a0.length c_a0), (33, .int .i64 x5)]) (by kernel_rfl) ?_
            obtain ⟨hg19, h1⟩ := guardS h1
            obtain ⟨g20, o24, A25, cp26, hA21, hr22, hr27⟩ := RdX_ApiFile.get hr_a0 hg19.1 hg19.2
            refine OpsT.cons (Does.yi (Yl.indexSlice (d := 34) (T := 22) (cc := c_a0) (k := .i64) (j := x5) (g := g20) (o := o24) (by kernel_rfl) Go.Proofs.Tryd.underlying22 ty27 hA21 hg19.1 hg19.2) hI ?_)
            refine OpsT.cons (Does.yi (Yl.load (d := 35) (T := 27) (v := .agg ((([.int .i64 ((gt a0 x5).ID), .string ((gt a0 x5).Name), .string ((gt a0 x5).Data), .bool ((gt a0 x5).Sealed), .int .i64 ((gt a0 x5).Until), .slice A25 (((gt a0 x5).Holds).length) cp26] : List Value))).toArray) (by kernel_rfl) (ldRN ty27 (cs := (([.int .i64 ((gt a0 x5).ID), .string ((gt a0 x5).Name), .string ((gt a0 x5).Data), .bool ((gt a0 x5).Sealed), .int .i64 ((gt a0 x5).Until), .slice A25 (((gt a0 x5).Holds).length) cp26] : List Value))) 0 (fun w hC => hr22 w0 w _ hC) (by kernel_rfl) (whole _ _ (by kernel_rfl)))) hI ?_)
            refine OpsT.pures (r := [5, 6]) [4] [0, 1, 2, 7, 8, 35, 36] (S' := [(0, .slice A_a0 a0.length c_a0), (1, .int .i64 a1), (2, .int .i64 a2), (7, .bool y2), (8, .int .i64 x5), (35, .agg ((([.int .i64 ((gt a0 x5).ID), .string ((gt a0 x5).Name), .string ((gt a0 x5).Data), .bool ((gt a0 x5).Sealed), .int .i64 ((gt a0 x5).Until), .slice A25 (((gt a0 x5).Holds).length) cp26] : List Value))).toArray), (36, .int .i64 a1)]) (by kernel_rfl) ?_
            obtain ⟨y29, hc28, h1⟩ := bindS h1
            try dsimp only at h1
            refine OpsT.cons (Does.call (d := some 37) (n := 12) (vs := [.agg ((([.int .i64 ((gt a0 x5).ID), .string ((gt a0 x5).Name), .string ((gt a0 x5).Data), .bool ((gt a0 x5).Sealed), .int .i64 ((gt a0 x5).Until), .slice A25 (((gt a0 x5).Holds).length) cp26] : List Value))).toArray, .int .i64 a1]) (by kernel_rfl) en12 (c12 w0 w _ _ hI hT ((gt a0 x5).ID) ((gt a0 x5).Name) ((gt a0 x5).Data) ((gt a0 x5).Sealed) ((gt a0 x5).Until) A25 cp26 ((gt a0 x5).Holds) hr27 a1 _ hc28) ?_)
            rintro e w ⟨rfl, hI⟩
            refine ⟨_, rfl, ?_⟩
            refine OpsT.pures (r := []) [6] [0, 1, 2, 7, 8, 10] (S' := [(0, .slice A_a0 a0.length c_a0), (1, .int .i64 a1), (2, .int .i64 a2), (7, .bool y2), (8, .int .i64 x5), (10, .int .i64 y29)]) (by kernel_rfl) ?_
            refine OpsT.done ?_
            refine Qn.then ?_
            obtain ⟨r2, h2, h1⟩ := bindS h1
            refine CodT.meet (fun a w => ∃ (x30 : Bool), x30 = r2 ∧ Fr 83 [(0, .slice A_a0 a0.length c_a0), (1, .int .i64 a1), (2, .int .i64 a2), (7, .bool y2), (8, .int .i64 x5), (63, .bool x30)] a ∧ Inv w0 Z w A) ?_ ?_
            ·
              refine CodT.drawI (n := 26) [] (by kernel_rfl) (by kernel_rfl) hI ?_
              intro w hI
              refine GmT.p' 0 38 (.slice A_a0 a0.length c_a0) (by kernel_rfl) (by kernel_rfl) ?_
              refine GmT.p' 1 39 (.int .i64 x5) (by kernel_rfl) (by kernel_rfl) ?_
              refine GmT.p' 4 42 (.int .i64 a1) (by kernel_rfl) (by kernel_rfl) ?_
              refine GmT.p' 6 44 (.int .i64 y29) (by kernel_rfl) (by kernel_rfl) ?_
              obtain ⟨hg31, h2⟩ := guardS h2
              obtain ⟨g32, o36, A37, cp38, hA33, hr34, hr39⟩ := RdX_ApiFile.get hr_a0 hg31.1 hg31.2
              refine GmT.r (i := 2) 2 (by kernel_rfl) (by kernel_rfl) (Yl.indexSlice (d := 40) (T := 22) (cc := c_a0) (k := .i64) (j := x5) (g := g32) (o := o36) (by kernel_rfl) Go.Proofs.Tryd.underlying22 ty27 hA33 hg31.1 hg31.2) hI ?_
              refine GmT.r (i := 3) 2 (by kernel_rfl) (by kernel_rfl) (Yl.load (d := 41) (T := 27) (v := .agg ((([.int .i64 ((gt a0 x5).ID), .string ((gt a0 x5).Name), .string ((gt a0 x5).Data), .bool ((gt a0 x5).Sealed), .int .i64 ((gt a0 x5).Until), .slice A37 (((gt a0 x5).Holds).length) cp38] : List Value))).toArray) (by kernel_rfl) (ldRN ty27 (cs := (([.int .i64 ((gt a0 x5).ID), .string ((gt a0 x5).Name), .string ((gt a0 x5).Data), .bool ((gt a0 x5).Sealed), .int .i64 ((gt a0 x5).Until), .slice A37 (((gt a0 x5).Holds).length) cp38] : List Value))) 0 (fun w hC => hr34 w0 w _ hC) (by kernel_rfl) (whole _ _ (by kernel_rfl)))) hI ?_
              obtain ⟨y41, hc40, h2⟩ := bindS h2
              try dsimp only at h2
              refine GmT.o (i := 5) (by kernel_rfl) (Does.call (d := some 43) (n := 13) (vs := [.agg ((([.int .i64 ((gt a0 x5).ID), .string ((gt a0 x5).Name), .string ((gt a0 x5).Data), .bool ((gt a0 x5).Sealed), .int .i64 ((gt a0 x5).Until), .slice A37 (((gt a0 x5).Holds).length) cp38] : List Value))).toArray, .int .i64 a1]) (by kernel_rfl) en13 (c13 w0 w _ _ hI hT ((gt a0 x5).ID) ((gt a0 x5).Name) ((gt a0 x5).Data) ((gt a0 x5).Sealed) ((gt a0 x5).Until) A37 cp38 ((gt a0 x5).Holds) hr39 a1 _ hc40) ?_)
              rintro e w ⟨rfl, hI⟩
              refine ⟨_, rfl, ?_⟩
              refine ⟨fun _ _ => hI, ?_⟩
              refine GmT.p' 7 45 (.bool (y41 != y29)) (by kernel_rfl) (by kernel_rfl) ?_
              refine GmT.p' 8 46 (.bool (y41 != y29)) (by kernel_rfl) (by kernel_rfl) ?_
              by_cases hb42 : (y41 != y29) = true
              · rw [if_pos hb42] at h2
                refine GmT.keep [0, 1, 2, 7, 8, 10, 46] (S' := [(0, .slice A_a0 a0.length c_a0), (1, .int .i64 a1), (2, .int .i64 a2), (7, .bool y2), (8, .int .i64 x5), (10, .int .i64 y29), (46, .bool true)]) (by (try simp only [hb42]); kernel_rfl) ?_
                refine GmT.p' 9 47 (undef) (by kernel_rfl) (by kernel_rfl) ?_
                refine GmT.p' 10 48 (undef) (by kernel_rfl) (by kernel_rfl) ?_
                refine GmT.p' 11 49 (undef) (by kernel_rfl) (by kernel_rfl) ?_
                refine GmT.p' 12 50 (undef) (by kernel_rfl) (by kernel_rfl) ?_
                refine GmT.p' 13 51 (undef) (by kernel_rfl) (by kernel_rfl) ?_
                refine GmT.p' 14 52 (undef) (by kernel_rfl) (by kernel_rfl) ?_
                refine GmT.p' 15 53 (undef) (by kernel_rfl) (by kernel_rfl) ?_
                refine GmT.p' 16 54 (undef) (by kernel_rfl) (by kernel_rfl) ?_
                refine GmT.p' 17 55 (undef) (by kernel_rfl) (by kernel_rfl) ?_
                refine GmT.p' 18 56 (undef) (by kernel_rfl) (by kernel_rfl) ?_
                refine GmT.p' 19 57 (undef) (by kernel_rfl) (by kernel_rfl) ?_
                refine GmT.p' 20 58 (undef) (by kernel_rfl) (by kernel_rfl) ?_
                refine GmT.p' 21 59 (undef) (by kernel_rfl) (by kernel_rfl) ?_
                refine GmT.p' 22 60 (undef) (by kernel_rfl) (by kernel_rfl) ?_
                refine GmT.p' 23 61 (undef) (by kernel_rfl) (by kernel_rfl) ?_
                refine GmT.p' 24 62 (undef) (by kernel_rfl) (by kernel_rfl) ?_
                refine GmT.p' 25 63 (.bool true) (by kernel_rfl) (by kernel_rfl) ?_
                refine GmT.done (by kernel_rfl) ?_
                have e := someS h2
                subst e
                exact Qn.thenJ fun a ha => ⟨true, rfl, ha.keep [0, 1, 2, 7, 8, 63] (by kernel_rfl), hI⟩
              · rw [if_neg hb42] at h2
                have hb42 : (y41 != y29) = false := by simpa using hb42
                refine GmT.keep [0, 1, 2, 7, 8, 10, 46] (S' := [(0, .slice A_a0 a0.length c_a0), (1, .int .i64 a1), (2, .int .i64 a2), (7, .bool y2), (8, .int .i64 x5), (10, .int .i64 y29), (46, .bool false)]) (by (try simp only [hb42]); kernel_rfl) ?_
                refine GmT.p' 9 47 (.slice A_a0 a0.length c_a0) (by kernel_rfl) (by kernel_rfl) ?_
                refine GmT.p' 10 48 (.int .i64 x5) (by kernel_rfl) (by kernel_rfl) ?_
                refine GmT.p' 13 51 (.int .i64 a1) (by kernel_rfl) (by kernel_rfl) ?_
                refine GmT.p' 15 53 (.slice A_a0 a0.length c_a0) (by kernel_rfl) (by kernel_rfl) ?_
                refine GmT.p' 16 54 (.int .i64 x5) (by kernel_rfl) (by kernel_rfl) ?_
                obtain ⟨hg43, h2⟩ := guardS h2
                obtain ⟨g44, o48, A49, cp50, hA45, hr46, hr51⟩ := RdX_ApiFile.get hr_a0 hg43.1 hg43.2
                refine GmT.r (i := 11) 2 (by kernel_rfl) (by kernel_rfl) (Yl.indexSlice (d := 49) (T := 22) (cc := c_a0) (k := .i64) (j := x5) (g := g44) (o := o48) (by kernel_rfl) Go.Proofs.Tryd.underlying22 ty27 hA45 hg43.1 hg43.2) hI ?_
                refine GmT.r (i := 12) 2 (by kernel_rfl) (by kernel_rfl) (Yl.load (d := 50) (T := 27) (v := .agg ((([.int .i64 ((gt a0 x5).ID), .string ((gt a0 x5).Name), .string ((gt a0 x5).Data), .bool ((gt a0 x5).Sealed), .int .i64 ((gt a0 x5).Until), .slice A49 (((gt a0 x5).Holds).length) cp50] : List Value))).toArray) (by kernel_rfl) (ldRN ty27 (cs := (([.int .i64 ((gt a0 x5).ID), .string ((gt a0 x5).Name), .string ((gt a0 x5).Data), .bool ((gt a0 x5).Sealed), .int .i64 ((gt a0 x5).Until), .slice A49 (((gt a0 x5).Holds).length) cp50] : List Value))) 0 (fun w hC => hr46 w0 w _ hC) (by kernel_rfl) (whole _ _ (by kernel_rfl)))) hI ?_
                obtain ⟨hg52, h2⟩ := guardS h2
                obtain ⟨g53, o57, A58, cp59, hA54, hr55, hr60⟩ := RdX_ApiFile.get hr_a0 hg52.1 hg52.2
                refine GmT.r (i := 17) 2 (by kernel_rfl) (by kernel_rfl) (Yl.indexSlice (d := 55) (T := 22) (cc := c_a0) (k := .i64) (j := x5) (g := g53) (o := o57) (by kernel_rfl) Go.Proofs.Tryd.underlying22 ty27 hA54 hg52.1 hg52.2) hI ?_
                refine GmT.p' 18 56 (.pointer (some ⟨g53, o57 + x5.toNat * 6 + 3, none⟩)) (by kernel_rfl) (by kernel_rfl) ?_
                refine GmT.r (i := 19) 2 (by kernel_rfl) (by kernel_rfl) (Yl.load (d := 57) (T := 4) (v := .bool ((gt a0 x5).Sealed)) (by kernel_rfl) (ldR ty4 (v := .bool ((gt a0 x5).Sealed)) 3 (fun w hC => hr55 w0 w _ hC) (by kernel_rfl))) hI ?_
                obtain ⟨y62, hc61, h2⟩ := bindS h2
                try dsimp only at h2
                refine GmT.o (i := 14) (by kernel_rfl) (Does.call (d := some 52) (n := 14) (vs := [.agg ((([.int .i64 ((gt a0 x5).ID), .string ((gt a0 x5).Name), .string ((gt a0 x5).Data), .bool ((gt a0 x5).Sealed), .int .i64 ((gt a0 x5).Until), .slice A49 (((gt a0 x5).Holds).length) cp50] : List Value))).toArray, .int .i64 a1]) (by kernel_rfl) en14 (c14 w0 w _ _ hI hT ((gt a0 x5).ID) ((gt a0 x5).Name) ((gt a0 x5).Data) ((gt a0 x5).Sealed) ((gt a0 x5).Until) A49 cp50 ((gt a0 x5).Holds) hr51 a1 _ hc61) ?_)
                rintro e w ⟨rfl, hI⟩
                refine ⟨_, rfl, ?_⟩
                refine ⟨fun _ _ => hI, ?_⟩
                refine GmT.p' 20 58 (.bool ((gt a0 x5).Sealed)) (by kernel_rfl) (by kernel_rfl) ?_
                by_cases hb63 : ((gt a0 x5).Sealed) = true
                · rw [if_pos hb63] at h2
                  refine GmT.keep [0, 1, 2, 7, 8, 10, 46, 52, 58] (S' := [(0, .slice A_a0 a0.length c_a0), (1, .int .i64 a1), (2, .int .i64 a2), (7, .bool y2), (8, .int .i64 x5), (10, .int .i64 y29), (46, .bool false), (52, .bool y62), (58, .bool true)]) (by (try simp only [hb63]); kernel_rfl) ?_
                  refine GmT.p' 21 59 (.int .i64 y29) (by kernel_rfl) (by kernel_rfl) ?_
                  refine GmT.p' 22 60 (.bool (y29 != 0)) (by kernel_rfl) (by kernel_rfl) ?_
                  refine GmT.p' 23 61 (.bool (y29 != 0)) (by kernel_rfl) (by kernel_rfl) ?_
                  refine GmT.p' 24 62 (.bool (y62 != (y29 != 0))) (by kernel_rfl) (by kernel_rfl) ?_
                  refine GmT.p' 25 63 (.bool (y62 != (y29 != 0))) (by kernel_rfl) (by kernel_rfl) ?_
                  refine GmT.done (by kernel_rfl) ?_
                  have e := someS h2
                  subst e
                  exact Qn.thenJ fun a ha => ⟨y62 != (y29 != 0), rfl, ha.keep [0, 1, 2, 7, 8, 63] (by kernel_rfl), hI⟩
                · rw [if_neg hb63] at h2
                  have hb63 : ((gt a0 x5).Sealed) = false := by simpa using hb63
                  refine GmT.keep [0, 1, 2, 7, 8, 10, 46, 52, 58] (S' := [(0, .slice A_a0 a0.length c_a0), (1, .int .i64 a1), (2, .int .i64 a2), (7, .bool y2), (8, .int .i64 x5), (10, .int .i64 y29), (46, .bool false), (52, .bool y62), (58, .bool false)]) (by (try simp only [hb63]); kernel_rfl) ?_
                  refine GmT.p' 21 59 (undef) (by kernel_rfl) (by kernel_rfl) ?_
                  refine GmT.p' 22 60 (undef) (by kernel_rfl) (by kernel_rfl) ?_
                  refine GmT.p' 23 61 (.bool false) (by kernel_rfl) (by kernel_rfl) ?_
                  refine GmT.p' 24 62 (.bool (y62 != false)) (by kernel_rfl) (by kernel_rfl) ?_
                  refine GmT.p' 25 63 (.bool (y62 != false)) (by kernel_rfl) (by kernel_rfl) ?_
                  refine GmT.done (by kernel_rfl) ?_
                  have e := someS h2
                  subst e
                  exact Qn.thenJ fun a ha => ⟨y62 != false, rfl, ha.keep [0, 1, 2, 7, 8, 63] (by kernel_rfl), hI⟩
            ·
              rintro a w ⟨x30, rfl, ha, hI⟩
              try dsimp only at h1
              refine CodT.of ?_ ha
              by_cases hb64 : x30 = true
              · rw [if_pos hb64] at h1
                refine CodT.yes' (b := x30) (by kernel_rfl) hb64 ?_
                refine CodT.seq ?_
                refine CodT.regionL [0] (by kernel_rfl) ?_
                refine OpsT.pures (r := []) [0] [6] (S' := [(6, .bool false)]) (by kernel_rfl) ?_
                refine OpsT.done ?_
                refine Qn.then ?_
                refine CodT.ret ?_
                refine Qn.block_ret ?_
                refine Qn.ret_then ?_
                refine Qn.ret_then ?_
                refine Qn.block_ret ?_
                refine Qn.ret_then ?_
                refine Qn.ret_then ?_
                have e := someS h1
                subst e
                try dsimp only at h0
                have e := someS h0
                subst e
                refine Qn.keep [6] (S' := [(6, .bool false)]) (by kernel_rfl) ?_
                exact post_ret (v := .bool false) (fun a ha => RunRes.run (vs := [.bool false]) (.tmp (t := 6) (by kernel_rfl) .nil) ha (by kernel_rfl)) ⟨rfl, hI⟩
              · rw [if_neg hb64] at h1
                refine CodT.no' (b := x30) (by kernel_rfl) (by simpa using hb64) ?_
                refine CodT.skip ?_
                refine Qn.block_normal ?_
                refine Qn.then ?_
                refine CodT.regionL [0, 1, 2] (by kernel_rfl) ?_
                refine OpsT.pures (r := []) [0, 1, 2] [0, 1, 2, 7, 8] (S' := [(0, .slice A_a0 a0.length c_a0), (1, .int .i64 a1), (2, .int .i64 a2), (7, .bool y2), (8, .int .i64 (wi64 (x5 + 1)))]) (by kernel_rfl) ?_
                refine OpsT.done ?_
                exact Qn.thenJ fun a ha => ⟨k, Nat.lt_succ_self k, wi64 (x5 + 1), h1, ha.keep [0, 1, 2, 7, 8] (by kernel_rfl), hI⟩
        · rw [if_neg hb6] at h1
          refine CodT.no' (b := decide (x5 < (a0.length : Int))) (by kernel_rfl) (by simpa using hb6) ?_
          refine CodT.exit ?_
          refine Qn.exit_then ?_
          refine Qn.exit_then ?_
          refine Qn.block ?_
          have e := someS h1
          subst e
          exact Qn.thenJ fun a ha => ⟨rfl, ha.keep [0, 1, 2, 7] (by kernel_rfl), hI⟩
      ·
        rintro a w ⟨rfl, ha, hI⟩
        try dsimp only at h0
        refine Qn.of ?_ ha
        refine Qn.then ?_
        obtain ⟨r1, h1, h0⟩ := bindS h0
        refine CodT.meet (fun a w => ∃ (x67 : Bool) (Z65 : Hp), x67 = r1 ∧ Fr 83 [(6, .bool x67)] a ∧ Inv w0 Z65 w A ∧ Z.le Z65) ?_ ?_
        ·
          refine CodT.regionL [0, 1, 2, 3, 4, 5, 6, 7, 8, 9, 10, 11, 12, 13, 14, 15, 16, 17, 18, 19] (by kernel_rfl) ?_
          refine OpsT.pures (r := [2, 3, 4, 5, 6, 7, 8, 9, 10, 11, 12, 13, 14, 15, 16, 17, 18, 19]) [0, 1] [0, 1, 2, 65] (S' := [(0, .slice A_a0 a0.length c_a0), (1, .int .i64 a1), (2, .int .i64 a2), (65, .bool y2)]) (by kernel_rfl) ?_
          by_cases hb68 : y2 = true
          · rw [if_pos hb68] at h1
            refine OpsT.keep [0, 1, 2, 65] (S' := [(0, .slice A_a0 a0.length c_a0), (1, .int .i64 a1), (2, .int .i64 a2), (65, .bool true)]) (by (try simp only [hb68]); kernel_rfl) ?_
            refine OpsT.pures (r := [4, 5, 6, 7, 8, 9, 10, 11, 12, 13, 14, 15, 16, 17, 18, 19]) [2, 3] [0, 1, 2, 65, 66, 67] (S' := [(0, .slice A_a0 a0.length c_a0), (1, .int .i64 a1), (2, .int .i64 a2), (65, .bool true), (66, .slice A_a0 a0.length c_a0), (67, .int .i64 a1)]) (by kernel_rfl) ?_
            obtain ⟨y70, hc69, h1⟩ := bindS h1
            try dsimp only at h1
            refine OpsT.cons (Does.call (d := some 68) (n := 16) (vs := [.slice A_a0 a0.length c_a0, .int .i64 a1]) (by kernel_rfl) en16 (c16 w0 w _ _ hI hT A_a0 c_a0 a0 hr_a0 a1 _ hc69) ?_)
            rintro e w ⟨A71, cp72, rfl, hI⟩
            refine ⟨_, rfl, ?_⟩
            refine OpsT.pures (r := [7, 8, 9, 10, 11, 12, 13, 14, 15, 16, 17, 18, 19]) [5, 6] [1, 2, 65, 68, 69, 70] (S' := [(1, .int .i64 a1), (2, .int .i64 a2), (65, .bool true), (68, .slice A71 y70.length cp72), (69, .slice A_a0 a0.length c_a0), (70, .int .i64 a1)]) (by kernel_rfl) ?_
            obtain ⟨y74, hc73, h1⟩ := bindS h1
            try dsimp only at h1
            refine OpsT.cons (Does.call (d := some 71) (n := 17) (vs := [.slice A_a0 a0.length c_a0, .int .i64 a1]) (by kernel_rfl) en17 (c17 w0 w _ _ hI hT A_a0 c_a0 a0 hr_a0 a1 _ hc73) ?_)
            rintro e w ⟨A75, cp76, rfl, hI⟩
            refine ⟨_, rfl, ?_⟩
            have hI := hI.mono (pick2 _ _ _)
            obtain ⟨Z77, hle78, hr79, hI⟩ := ownS_freeze hI
            obtain ⟨Z80, hle81, hr82, hI⟩ := ownS_freeze hI
            obtain ⟨y84, hc83, h1⟩ := bindS h1
            try dsimp only at h1
            refine OpsT.cons (Does.call (d := some 72) (n := 15) (vs := [.slice A71 y70.length cp72, .slice A75 y74.length cp76]) (by kernel_rfl) en15 (c15 w0 w _ _ hI (hT.mono (Hp.le_trans hle78 hle81)) A71 cp72 y70 (hr79.mono hle81) A75 cp76 y74 hr82 _ hc83) ?_)
            rintro e w ⟨rfl, hI⟩
            refine ⟨_, rfl, ?_⟩
            refine OpsT.pures (r := [11, 12, 13, 14, 15, 16, 17, 18, 19]) [9, 10] [1, 2, 74] (S' := [(1, .int .i64 a1), (2, .int .i64 a2), (74, .bool y84)]) (by kernel_rfl) ?_
            by_cases hb85 : y84 = true
            · rw [if_pos hb85] at h1
              refine OpsT.keep [1, 2, 74] (S' := [(1, .int .i64 a1), (2, .int .i64 a2), (74, .bool true)]) (by (try simp only [hb85]); kernel_rfl) ?_
              refine OpsT.pures (r := [13, 14, 15, 16, 17, 18, 19]) [11, 12] [1, 2, 74, 75, 76] (S' := [(1, .int .i64 a1), (2, .int .i64 a2), (74, .bool true), (75, .int .i64 a1), (76, .int .i64 a2)]) (by kernel_rfl) ?_
              obtain ⟨y87, hc86, h1⟩ := bindS h1
              try dsimp only at h1
              refine OpsT.cons (Does.call (d := some 77) (n := 18) (vs := [.int .i64 a1, .int .i64 a2]) (by kernel_rfl) en18 (c18 w0 w _ _ hI (hT.mono (Hp.le_trans hle78 hle81)) a1 a2 _ hc86) ?_)
              rintro e w ⟨rfl, hI⟩
              refine ⟨_, rfl, ?_⟩
              refine OpsT.pures (r := [16, 17, 18, 19]) [14, 15] [74, 77, 78, 79] (S' := [(74, .bool true), (77, .int .i64 y87), (78, .int .i64 a1), (79, .int .i64 a2)]) (by kernel_rfl) ?_
              obtain ⟨y89, hc88, h1⟩ := bindS h1
              try dsimp only at h1
              refine OpsT.cons (Does.call (d := some 80) (n := 19) (vs := [.int .i64 a1, .int .i64 a2]) (by kernel_rfl) en19 (c19 w0 w _ _ hI (hT.mono (Hp.le_trans hle78 hle81)) a1 a2 _ hc88) ?_)
              rintro e w ⟨rfl, hI⟩
              refine ⟨_, rfl, ?_⟩
              refine OpsT.pures (r := []) [17, 18, 19] [6] (S' := [(6, .bool (y87 == y89))]) (by kernel_rfl) ?_
              refine OpsT.done ?_
              have e := someS h1
              subst e
              exact Qn.thenJ fun a ha => ⟨y87 == y89, Z80, rfl, ha.keep [6] (by kernel_rfl), hI, (Hp.le_trans hle78 hle81)⟩
            · rw [if_neg hb85] at h1
              have hb85 : y84 = false := by simpa using hb85
              refine OpsT.keep [1, 2, 74] (S' := [(1, .int .i64 a1), (2, .int .i64 a2), (74, .bool false)]) (by (try simp only [hb85]); kernel_rfl) ?_
              refine OpsT.pures (r := []) [11, 12, 13, 14, 15, 16, 17, 18, 19] [6] (S' := [(6, .bool false)]) (by kernel_rfl) ?_
              refine OpsT.done ?_
              have e := someS h1
              subst e
              exact Qn.thenJ fun a ha => ⟨false, Z80, rfl, ha.keep [6] (by kernel_rfl), hI, (Hp.le_trans hle78 hle81)⟩
          · rw [if_neg hb68] at h1
            have hb68 : y2 = false := by simpa using hb68
            refine OpsT.keep [0, 1, 2, 65] (S' := [(0, .slice A_a0 a0.length c_a0), (1, .int .i64 a1), (2, .int .i64 a2), (65, .bool false)]) (by (try simp only [hb68]); kernel_rfl) ?_
            refine OpsT.pures (r := []) [2, 3, 4, 5, 6, 7, 8, 9, 10, 11, 12, 13, 14, 15, 16, 17, 18, 19] [6] (S' := [(6, .bool false)]) (by kernel_rfl) ?_
            refine OpsT.done ?_
            have e := someS h1
            subst e
            exact Qn.thenJ fun a ha => ⟨false, Z, rfl, ha.keep [6] (by kernel_rfl), hI, (Hp.le_refl _)⟩
        ·
          rintro a w ⟨x67, Z65, rfl, ha, hI, hle66⟩
          try dsimp only at h0
          refine CodT.of ?_ ha
          refine CodT.ret ?_
          have e := someS h0
          subst e
          refine Qn.keep [6] (S' := [(6, .bool x67)]) (by kernel_rfl) ?_
          exact post_ret (v := .bool x67) (fun a ha => RunRes.run (vs := [.bool x67]) (.tmp (t := 6) (by kernel_rfl) .nil) ha (by kernel_rfl)) ⟨rfl, hI.weaken hle66⟩
end Go.Cen
