/- The walk of the law EventApart, printed by a program of ours. -/
import Derived.Test.YtjbofffabkimeaaWx2
set_option linter.unusedVariables false
set_option linter.unusedSimpArgs false
namespace Go.Cen
variable [TabC]
set_option maxRecDepth 100000 in
set_option maxHeartbeats 4000000 in
/-- cenotaph/cenotaphlaw05.EventApart -/
theorem c3 (w0 w : World) (Z : Hp) (A : HP) (hI : Inv w0 Z w A) (hT : Tabs Z) (a0 : ApiEvent) (hl1 : a0.Sum.length = 32) (a1 : ApiEvent) (hl2 : a1.Sum.length = 32) (r : Bool) (h0 : law05_EventApart a0 a1 = some r) :
    Calls prog 3 #[.agg (c_ApiEvent a0).toArray, .agg (c_ApiEvent a1).toArray] w (fun e w' => e = .returned (.bool r) ∧ Inv w0 Z w' A) := by
  have e4 := calls_intro (R := (fun e w' => e = .returned (.bool r) ∧ Inv w0 Z w' A)) (w := w) (args := [.agg (c_ApiEvent a0).toArray, .agg (c_ApiEvent a1).toArray]) (fn := Go.Proofs.Try.f3) 73 Go.Proofs.Try.func3 (by rfl) Go.Proofs.Try.ntmps3 (by kernel_rfl)
  refine e4 ?_
  clear e4
  unfold law05_EventApart at h0
  refine CodT.seq ?_
  refine CodT.regionL [0, 1, 2] (by kernel_rfl) ?_
  refine OpsT.cons (Does.boxL (d := 2) (T := 26) (v := .agg (c_ApiEvent a0).toArray) (c_ApiEvent a0) (by kernel_rfl) hI (by kernel_rfl) ?_)
  intro b3 w hI
  refine OpsT.cons (Does.boxL (d := 3) (T := 26) (v := .agg (c_ApiEvent a1).toArray) (c_ApiEvent a1) (by kernel_rfl) hI (by kernel_rfl) ?_)
  intro b4 w hI
  refine OpsT.pures (r := []) [2] [2, 3] (S' := [(2, .pointer (some ⟨b3, 0, none⟩)), (3, .pointer (some ⟨b4, 0, none⟩))]) (by kernel_rfl) ?_
  refine OpsT.done ?_
  refine Qn.then ?_
  refine CodT.seq ?_
  refine CodT.regionL [0, 1] (by kernel_rfl) ?_
  obtain ⟨y6, hc5, h0⟩ := bindS h0
  try dsimp only at h0
  refine OpsT.cons (Does.call (d := some 11) (n := 4) (vs := []) (by kernel_rfl) en4 (c4 w0 w _ _ hI hT _ hc5) ?_)
  rintro e w ⟨rfl, hI⟩
  refine ⟨_, rfl, ?_⟩
  refine OpsT.pures (r := []) [1] [2, 3, 5] (S' := [(2, .pointer (some ⟨b3, 0, none⟩)), (3, .pointer (some ⟨b4, 0, none⟩)), (5, .bool y6)]) (by kernel_rfl) ?_
  refine OpsT.done ?_
  refine Qn.then ?_
  refine CodT.seq ?_
  refine CodT.seq ?_
  refine CodT.regionL [0, 1] (by kernel_rfl) ?_
  refine OpsT.pures (r := []) [0, 1] [2, 3, 5, 13] (S' := [(2, .pointer (some ⟨b3, 0, none⟩)), (3, .pointer (some ⟨b4, 0, none⟩)), (5, .bool y6), (13, .bool (!y6))]) (by kernel_rfl) ?_
  refine OpsT.done ?_
  refine Qn.then ?_
  by_cases hb7 : (!y6) = true
  · rw [if_pos hb7] at h0
    refine CodT.yes' (b := !y6) (by kernel_rfl) hb7 ?_
    refine CodT.seq ?_
    refine CodT.regionL [0] (by kernel_rfl) ?_
    refine OpsT.pures (r := []) [0] [4] (S' := [(4, .bool false)]) (by kernel_rfl) ?_
    refine OpsT.done ?_
    refine Qn.then ?_
    refine CodT.ret ?_
    refine Qn.ret_then ?_
    have hI := hI.drop
    have hI := hI.drop
    have e := someS h0
    subst e
    refine Qn.keep [4] (S' := [(4, .bool false)]) (by kernel_rfl) ?_
    exact post_ret (v := .bool false) (fun a ha => RunRes.run (vs := [.bool false]) (.tmp (t := 4) (by kernel_rfl) .nil) ha (by kernel_rfl)) ⟨rfl, hI⟩
  · rw [if_neg hb7] at h0
    refine CodT.no' (b := !y6) (by kernel_rfl) (by simpa using hb7) ?_
    refine CodT.skip ?_
    refine Qn.then ?_
    refine CodT.seq ?_
    obtain ⟨r1, h1, h0⟩ := bindS h0
    refine CodT.meet (fun a w => ∃ (x8 : Bool), x8 = r1 ∧ Fr 73 [(2, .pointer (some ⟨b3, 0, none⟩)), (3, .pointer (some ⟨b4, 0, none⟩)), (5, .bool y6), (23, .bool x8)] a ∧ Inv w0 Z w (star (pt b4 (.cells (c_ApiEvent a1).toArray 26 (0, 0))) (star (pt b3 (.cells (c_ApiEvent a0).toArray 26 (0, 0))) A))) ?_ ?_
    ·
      refine CodT.regionL [0, 1, 2, 3, 4, 5, 6, 7, 8, 9] (by kernel_rfl) ?_
      refine OpsT.pures (r := [1, 2, 3, 4, 5, 6, 7, 8, 9]) [0] [2, 3, 5, 14] (S' := [(2, .pointer (some ⟨b3, 0, none⟩)), (3, .pointer (some ⟨b4, 0, none⟩)), (5, .bool y6), (14, .pointer (some ⟨b3, 2, none⟩))]) (by kernel_rfl) ?_
      refine OpsT.cons (Does.yi (Yl.load (d := 15) (T := 9) (v := .string a0.Name) (by kernel_rfl) (ldB ty9 (l := c_ApiEvent a0) (o := 2) (v := .string a0.Name) (pick2 _ _ _) (by kernel_rfl))) hI ?_)
      refine OpsT.pures (r := [5, 6, 7, 8, 9]) [2, 3, 4] [2, 3, 5, 18] (S' := [(2, .pointer (some ⟨b3, 0, none⟩)), (3, .pointer (some ⟨b4, 0, none⟩)), (5, .bool y6), (18, .bool (decide ((a0.Name.size : Int) > 300)))]) (by kernel_rfl) ?_
      by_cases hb9 : (decide ((a0.Name.size : Int) > 300)) = true
      · rw [if_pos hb9] at h1
        refine OpsT.keep [2, 3, 5, 18] (S' := [(2, .pointer (some ⟨b3, 0, none⟩)), (3, .pointer (some ⟨b4, 0, none⟩)), (5, .bool y6), (18, .bool true)]) (by (try simp only [hb9]); kernel_rfl) ?_
        refine OpsT.pures (r := []) [5, 6, 7, 8, 9] [2, 3, 5, 23] (S' := [(2, .pointer (some ⟨b3, 0, none⟩)), (3, .pointer (some ⟨b4, 0, none⟩)), (5, .bool y6), (23, .bool true)]) (by kernel_rfl) ?_
        refine OpsT.done ?_
        have e := someS h1
        subst e
        exact Qn.thenJ fun a ha => ⟨true, rfl, ha.keep [2, 3, 5, 23] (by kernel_rfl), hI⟩
      · rw [if_neg hb9] at h1
        have hb9 : (decide ((a0.Name.size : Int) > 300)) = false := by simpa using hb9
        refine OpsT.keep [2, 3, 5, 18] (S' := [(2, .pointer (some ⟨b3, 0, none⟩)), (3, .pointer (some ⟨b4, 0, none⟩)), (5, .bool y6), (18, .bool false)]) (by (try simp only [hb9]); kernel_rfl) ?_
        refine OpsT.pures (r := [6, 7, 8, 9]) [5] [2, 3, 5, 18, 19] (S' := [(2, .pointer (some ⟨b3, 0, none⟩)), (3, .pointer (some ⟨b4, 0, none⟩)), (5, .bool y6), (18, .bool false), (19, .pointer (some ⟨b4, 2, none⟩))]) (by kernel_rfl) ?_
        refine OpsT.cons (Does.yi (Yl.load (d := 20) (T := 9) (v := .string a1.Name) (by kernel_rfl) (ldB ty9 (l := c_ApiEvent a1) (o := 2) (v := .string a1.Name) (ent_refl _) (by kernel_rfl))) hI ?_)
        refine OpsT.pures (r := []) [7, 8, 9] [2, 3, 5, 23] (S' := [(2, .pointer (some ⟨b3, 0, none⟩)), (3, .pointer (some ⟨b4, 0, none⟩)), (5, .bool y6), (23, .bool (decide ((a1.Name.size : Int) > 300)))]) (by kernel_rfl) ?_
        refine OpsT.done ?_
        have e := someS h1
        subst e
        exact Qn.thenJ fun a ha => ⟨decide ((a1.Name.size : Int) > 300), rfl, ha.keep [2, 3, 5, 23] (by kernel_rfl), hI⟩
    ·
      rintro a w ⟨x8, rfl, ha, hI⟩
      try dsimp only at h0
      refine CodT.of ?_ ha
      by_cases hb10 : x8 = true
      · rw [if_pos hb10] at h0
        refine CodT.yes' (b := x8) (by kernel_rfl) hb10 ?_
        refine CodT.seq ?_
        refine CodT.regionL [0, 1] (by kernel_rfl) ?_
        refine OpsT.pures (r := []) [0, 1] [4] (S' := [(4, .bool y6)]) (by kernel_rfl) ?_
        refine OpsT.done ?_
        refine Qn.then ?_
        refine CodT.ret ?_
        refine Qn.ret_then ?_
        have hI := hI.drop
        have hI := hI.drop
        have e := someS h0
        subst e
        refine Qn.keep [4] (S' := [(4, .bool y6)]) (by kernel_rfl) ?_
        exact post_ret (v := .bool y6) (fun a ha => RunRes.run (vs := [.bool y6]) (.tmp (t := 4) (by kernel_rfl) .nil) ha (by kernel_rfl)) ⟨rfl, hI⟩
      · rw [if_neg hb10] at h0
        refine CodT.no' (b := x8) (by kernel_rfl) (by simpa using hb10) ?_
        refine CodT.skip ?_
        refine Qn.then ?_
        refine CodT.seq ?_
        refine CodT.regionL [0, 1, 2, 3, 4, 5, 6] (by kernel_rfl) ?_
        refine OpsT.cons (Does.yi (Yl.load (d := 26) (T := 26) (v := .agg (c_ApiEvent a0).toArray) (by kernel_rfl) (ldBN ty26 (l := c_ApiEvent a0) (o := 0) (cs := c_ApiEvent a0) (pick2 _ _ _) (len_ApiEvent _ hl1) (whole _ _ (len_ApiEvent _ hl1)))) hI ?_)
        obtain ⟨⟨y12, y13⟩, hc11, h0⟩ := bindS h0
        try dsimp only at h0
        refine OpsT.cons (Does.call (d := some 27) (n := 5) (vs := [.agg (c_ApiEvent a0).toArray]) (by kernel_rfl) en5 (c5 w0 w _ _ hI hT a0 hl1 _ hc11) ?_)
        rintro e w ⟨rfl, hI⟩
        refine ⟨_, rfl, ?_⟩
        refine OpsT.pures (r := []) [2, 3, 4, 5, 6] [2, 3, 5, 6, 7] (S' := [(2, .pointer (some ⟨b3, 0, none⟩)), (3, .pointer (some ⟨b4, 0, none⟩)), (5, .bool y6), (6, .string y12), (7, .bool y13)]) (by kernel_rfl) ?_
        refine OpsT.done ?_
        refine Qn.then ?_
        refine CodT.seq ?_
        refine CodT.regionL [0, 1, 2, 3, 4, 5, 6] (by kernel_rfl) ?_
        refine OpsT.cons (Does.yi (Yl.load (d := 31) (T := 26) (v := .agg (c_ApiEvent a1).toArray) (by kernel_rfl) (ldBN ty26 (l := c_ApiEvent a1) (o := 0) (cs := c_ApiEvent a1) (ent_refl _) (len_ApiEvent _ hl2) (whole _ _ (len_ApiEvent _ hl2)))) hI ?_)
        obtain ⟨⟨y15, y16⟩, hc14, h0⟩ := bindS h0
        try dsimp only at h0
        refine OpsT.cons (Does.call (d := some 32) (n := 5) (vs := [.agg (c_ApiEvent a1).toArray]) (by kernel_rfl) en5 (c5 w0 w _ _ hI hT a1 hl2 _ hc14) ?_)
        rintro e w ⟨rfl, hI⟩
        refine ⟨_, rfl, ?_⟩
        refine OpsT.pures (r := []) [2, 3, 4, 5, 6] [2, 3, 5, 6, 7, 8, 9] (S' := [(2, .pointer (some ⟨b3, 0, none⟩)), (3, .pointer (some ⟨b4, 0, none⟩)), (5, .bool y6), (6, .string y12), (7, .bool y13), (8, .string y15), (9, .bool y16)]) (by kernel_rfl) ?_
        refine OpsT.done ?_
        refine Qn.then ?_
        refine CodT.seq ?_
        obtain ⟨r1, h1, h0⟩ := bindS h0
        refine CodT.meet (fun a w => ∃ (x17 : Bool), x17 = r1 ∧ Fr 73 [(2, .pointer (some ⟨b3, 0, none⟩)), (3, .pointer (some ⟨b4, 0, none⟩)), (5, .bool y6), (6, .string y12), (8, .string y15), (40, .bool x17)] a ∧ Inv w0 Z w (star (pt b4 (.cells (c_ApiEvent a1).toArray 26 (0, 0))) (star (pt b3 (.cells (c_ApiEvent a0).toArray 26 (0, 0))) A))) ?_ ?_
        ·
          refine CodT.regionL [0, 1, 2, 3, 4, 5] (by kernel_rfl) ?_
          refine OpsT.pures (r := [3, 4, 5]) [0, 1, 2] [2, 3, 5, 6, 8, 9, 37] (S' := [(2, .pointer (some ⟨b3, 0, none⟩)), (3, .pointer (some ⟨b4, 0, none⟩)), (5, .bool y6), (6, .string y12), (8, .string y15), (9, .bool y16), (37, .bool (!y13))]) (by kernel_rfl) ?_
          by_cases hb18 : (!y13) = true
          · rw [if_pos hb18] at h1
            refine OpsT.keep [2, 3, 5, 6, 8, 9, 37] (S' := [(2, .pointer (some ⟨b3, 0, none⟩)), (3, .pointer (some ⟨b4, 0, none⟩)), (5, .bool y6), (6, .string y12), (8, .string y15), (9, .bool y16), (37, .bool true)]) (by (try simp only [hb18]); kernel_rfl) ?_
            refine OpsT.pures (r := []) [3, 4, 5] [2, 3, 5, 6, 8, 40] (S' := [(2, .pointer (some ⟨b3, 0, none⟩)), (3, .pointer (some ⟨b4, 0, none⟩)), (5, .bool y6), (6, .string y12), (8, .string y15), (40, .bool true)]) (by kernel_rfl) ?_
            refine OpsT.done ?_
            have e := someS h1
            subst e
            exact Qn.thenJ fun a ha => ⟨true, rfl, ha.keep [2, 3, 5, 6, 8, 40] (by kernel_rfl), hI⟩
          · rw [if_neg hb18] at h1
            have hb18 : (!y13) = false := by simpa using hb18
            refine OpsT.keep [2, 3, 5, 6, 8, 9, 37] (S' := [(2, .pointer (some ⟨b3, 0, none⟩)), (3, .pointer (some ⟨b4, 0, none⟩)), (5, .bool y6), (6, .string y12), (8, .string y15), (9, .bool y16), (37, .bool false)]) (by (try simp only [hb18]); kernel_rfl) ?_
            refine OpsT.pures (r := []) [3, 4, 5] [2, 3, 5, 6, 8, 40] (S' := [(2, .pointer (some ⟨b3, 0, none⟩)), (3, .pointer (some ⟨b4, 0, none⟩)), (5, .bool y6), (6, .string y12), (8, .string y15), (40, .bool (!y16))]) (by kernel_rfl) ?_
            refine OpsT.done ?_
            have e := someS h1
            subst e
            exact Qn.thenJ fun a ha => ⟨!y16, rfl, ha.keep [2, 3, 5, 6, 8, 40] (by kernel_rfl), hI⟩
        ·
          rintro a w ⟨x17, rfl, ha, hI⟩
          try dsimp only at h0
          refine CodT.of ?_ ha
          by_cases hb19 : x17 = true
          · rw [if_pos hb19] at h0
            refine CodT.yes' (b := x17) (by kernel_rfl) hb19 ?_
            refine CodT.seq ?_
            refine CodT.regionL [0, 1] (by kernel_rfl) ?_
            refine OpsT.pures (r := []) [0, 1] [4] (S' := [(4, .bool y6)]) (by kernel_rfl) ?_
            refine OpsT.done ?_
            refine Qn.then ?_
            refine CodT.ret ?_
            refine Qn.ret_then ?_
            have hI := hI.drop
            have hI := hI.drop
            have e := someS h0
            subst e
            refine Qn.keep [4] (S' := [(4, .bool y6)]) (by kernel_rfl) ?_
            exact post_ret (v := .bool y6) (fun a ha => RunRes.run (vs := [.bool y6]) (.tmp (t := 4) (by kernel_rfl) .nil) ha (by kernel_rfl)) ⟨rfl, hI⟩
          · rw [if_neg hb19] at h0
            refine CodT.no' (b := x17) (by kernel_rfl) (by simpa using hb19) ?_
            refine CodT.skip ?_
            refine Qn.then ?_
            refine CodT.seq ?_
            refine CodT.regionL [0, 1, 2, 3, 4, 5] (by kernel_rfl) ?_
            refine OpsT.pures (r := []) [0, 1, 2, 3, 4, 5] [2, 3, 5, 6, 8, 10] (S' := [(2, .pointer (some ⟨b3, 0, none⟩)), (3, .pointer (some ⟨b4, 0, none⟩)), (5, .bool y6), (6, .string y12), (8, .string y15), (10, .int .i64 (if (y15.size : Int) < (y12.size : Int) then (y15.size : Int) else (y12.size : Int)))]) (by kernel_rfl) ?_
            refine OpsT.done ?_
            refine Qn.then ?_
            obtain ⟨r1, h1, h0⟩ := bindS h0
            refine CodT.meet (fun a w => ∃ (x20 : Bool), x20 = r1 ∧ Fr 73 [(4, .bool x20)] a ∧ Inv w0 Z w A) ?_ ?_
            ·
              refine CodT.drawI (n := 27) [] (by kernel_rfl) (by kernel_rfl) hI ?_
              intro w hI
              refine GmT.p' 0 47 (.bool y6) (by kernel_rfl) (by kernel_rfl) ?_
              refine GmT.p' 1 48 (.bool y6) (by kernel_rfl) (by kernel_rfl) ?_
              by_cases hb21 : y6 = true
              · rw [if_pos hb21] at h1
                refine GmT.keep [2, 3, 6, 8, 10, 48] (S' := [(2, .pointer (some ⟨b3, 0, none⟩)), (3, .pointer (some ⟨b4, 0, none⟩)), (6, .string y12), (8, .string y15), (10, .int .i64 (if (y15.size : Int) < (y12.size : Int) then (y15.size : Int) else (y12.size : Int))), (48, .bool true)]) (by (try simp only [hb21]); kernel_rfl) ?_
                refine GmT.p' 2 49 (.string y12) (by kernel_rfl) (by kernel_rfl) ?_
                refine GmT.p' 3 50 (.int .i64 (if (y15.size : Int) < (y12.size : Int) then (y15.size : Int) else (y12.size : Int))) (by kernel_rfl) (by kernel_rfl) ?_
                refine GmT.p' 5 52 (.string y15) (by kernel_rfl) (by kernel_rfl) ?_
                refine GmT.p' 6 53 (.int .i64 (if (y15.size : Int) < (y12.size : Int) then (y15.size : Int) else (y12.size : Int))) (by kernel_rfl) (by kernel_rfl) ?_
                obtain ⟨hg22, h1⟩ := guardS h1
                refine GmT.r (i := 4) 2 (by kernel_rfl) (by kernel_rfl) (Yl.sliceStr01 (d := 51) (T := 9) (s := y12) (hi := if (y15.size : Int) < (y12.size : Int) then (y15.size : Int) else (y12.size : Int)) (by kernel_rfl) Go.Proofs.Try.underlying9 hg22) hI ?_
                obtain ⟨hg23, h1⟩ := guardS h1
                refine GmT.r (i := 7) 2 (by kernel_rfl) (by kernel_rfl) (Yl.sliceStr01 (d := 54) (T := 9) (s := y15) (hi := if (y15.size : Int) < (y12.size : Int) then (y15.size : Int) else (y12.size : Int)) (by kernel_rfl) Go.Proofs.Try.underlying9 hg23) hI ?_
                refine GmT.p' 8 55 (.bool (seq (sx y12 0 (if (y15.size : Int) < (y12.size : Int) then (y15.size : Int) else (y12.size : Int))) (sx y15 0 (if (y15.size : Int) < (y12.size : Int) then (y15.size : Int) else (y12.size : Int))))) (by kernel_rfl) (by kernel_rfl) ?_
                refine GmT.r (i := 9) 2 (by kernel_rfl) (by kernel_rfl) (Yl.load (d := 56) (T := 26) (v := .agg (c_ApiEvent a0).toArray) (by kernel_rfl) (ldBN ty26 (l := c_ApiEvent a0) (o := 0) (cs := c_ApiEvent a0) (pick2 _ _ _) (len_ApiEvent _ hl1) (whole _ _ (len_ApiEvent _ hl1)))) hI ?_
                refine GmT.r (i := 10) 2 (by kernel_rfl) (by kernel_rfl) (Yl.load (d := 57) (T := 26) (v := .agg (c_ApiEvent a1).toArray) (by kernel_rfl) (ldBN ty26 (l := c_ApiEvent a1) (o := 0) (cs := c_ApiEvent a1) (ent_refl _) (len_ApiEvent _ hl2) (whole _ _ (len_ApiEvent _ hl2)))) hI ?_
                refine GmT.r (i := 11) 2 (by kernel_rfl) (by kernel_rfl) (Yl.eqlS (d := 58) (T := 26) (xs := ([.int .i64 a0.Kind, .int .i64 a0.ID, .string a0.Name, .int .i64 a0.Time, .int .i64 a0.Len] : List Value) ++ (cA (Value.int .u8) a0.Sum)) (ys := ([.int .i64 a1.Kind, .int .i64 a1.ID, .string a1.Name, .int .i64 a1.Time, .int .i64 a1.Len] : List Value) ++ (cA (Value.int .u8) a1.Sum)) (r := eq_ApiEvent a0 a1) (by kernel_rfl) Go.Proofs.Try.underlying26 (by kernel_rfl) (by kernel_rfl) (.cons rfl (part1 (v := .int .i64 a0.Kind) ty22 (by kernel_rfl)) (part1 (v := .int .i64 a1.Kind) ty22 (by kernel_rfl)) (eqI Go.Proofs.Try.underlying22) (.cons rfl (part1 (v := .int .i64 a0.ID) ty3 (by kernel_rfl)) (part1 (v := .int .i64 a1.ID) ty3 (by kernel_rfl)) (eqI Go.Proofs.Try.underlying3) (.cons rfl (part1 (v := .string a0.Name) ty9 (by kernel_rfl)) (part1 (v := .string a1.Name) ty9 (by kernel_rfl)) (eqS Go.Proofs.Try.underlying9) (.cons rfl (part1 (v := .int .i64 a0.Time) ty3 (by kernel_rfl)) (part1 (v := .int .i64 a1.Time) ty3 (by kernel_rfl)) (eqI Go.Proofs.Try.underlying3) (.cons rfl (part1 (v := .int .i64 a0.Len) ty3 (by kernel_rfl)) (part1 (v := .int .i64 a1.Len) ty3 (by kernel_rfl)) (eqI Go.Proofs.Try.underlying3) (.cons rfl (partN ty24 (tail_take _ _ _ _ _ (by kernel_rfl) hl1)) (partN ty24 (tail_take _ _ _ _ _ (by kernel_rfl) hl2)) (eqAr Go.Proofs.Try.underlying24 Go.Proofs.Try.underlying5 ty5 hl1 hl2) .nil))))))) hI ?_
                refine GmT.p' 12 59 (.bool ((seq (sx y12 0 (if (y15.size : Int) < (y12.size : Int) then (y15.size : Int) else (y12.size : Int))) (sx y15 0 (if (y15.size : Int) < (y12.size : Int) then (y15.size : Int) else (y12.size : Int)))) == (eq_ApiEvent a0 a1))) (by kernel_rfl) (by kernel_rfl) ?_
                refine GmT.p' 13 60 (.bool ((seq (sx y12 0 (if (y15.size : Int) < (y12.size : Int) then (y15.size : Int) else (y12.size : Int))) (sx y15 0 (if (y15.size : Int) < (y12.size : Int) then (y15.size : Int) else (y12.size : Int)))) == (eq_ApiEvent a0 a1))) (by kernel_rfl) (by kernel_rfl) ?_
                refine GmT.p' 14 61 (.bool ((seq (sx y12 0 (if (y15.size : Int) < (y12.size : Int) then (y15.size : Int) else (y12.size : Int))) (sx y15 0 (if (y15.size : Int) < (y12.size : Int) then (y15.size : Int) else (y12.size : Int)))) == (eq_ApiEvent a0 a1))) (by kernel_rfl) (by kernel_rfl) ?_
                by_cases hb24 : ((seq (sx y12 0 (if (y15.size : Int) < (y12.size : Int) then (y15.size : Int) else (y12.size : Int))) (sx y15 0 (if (y15.size : Int) < (y12.size : Int) then (y15.size : Int) else (y12.size : Int)))) == (eq_ApiEvent a0 a1)) = true
                · rw [if_pos hb24] at h1
                  refine GmT.keep [2, 3, 61] (S' := [(2, .pointer (some ⟨b3, 0, none⟩)), (3, .pointer (some ⟨b4, 0, none⟩)), (61, .bool true)]) (by (try simp only [hb24]); kernel_rfl) ?_
                  refine GmT.r (i := 15) 2 (by kernel_rfl) (by kernel_rfl) (Yl.load (d := 62) (T := 26) (v := .agg (c_ApiEvent a0).toArray) (by kernel_rfl) (ldBN ty26 (l := c_ApiEvent a0) (o := 0) (cs := c_ApiEvent a0) (pick2 _ _ _) (len_ApiEvent _ hl1) (whole _ _ (len_ApiEvent _ hl1)))) hI ?_
                  refine GmT.r (i := 16) 2 (by kernel_rfl) (by kernel_rfl) (Yl.load (d := 63) (T := 26) (v := .agg (c_ApiEvent a1).toArray) (by kernel_rfl) (ldBN ty26 (l := c_ApiEvent a1) (o := 0) (cs := c_ApiEvent a1) (ent_refl _) (len_ApiEvent _ hl2) (whole _ _ (len_ApiEvent _ hl2)))) hI ?_
                  refine GmT.r (i := 17) 2 (by kernel_rfl) (by kernel_rfl) (Yl.neqS (d := 64) (T := 26) (xs := ([.int .i64 a0.Kind, .int .i64 a0.ID, .string a0.Name, .int .i64 a0.Time, .int .i64 a0.Len] : List Value) ++ (cA (Value.int .u8) a0.Sum)) (ys := ([.int .i64 a1.Kind, .int .i64 a1.ID, .string a1.Name, .int .i64 a1.Time, .int .i64 a1.Len] : List Value) ++ (cA (Value.int .u8) a1.Sum)) (r := eq_ApiEvent a0 a1) (by kernel_rfl) Go.Proofs.Try.underlying26 (by kernel_rfl) (by kernel_rfl) (.cons rfl (part1 (v := .int .i64 a0.Kind) ty22 (by kernel_rfl)) (part1 (v := .int .i64 a1.Kind) ty22 (by kernel_rfl)) (eqI Go.Proofs.Try.underlying22) (.cons rfl (part1 (v := .int .i64 a0.ID) ty3 (by kernel_rfl)) (part1 (v := .int .i64 a1.ID) ty3 (by kernel_rfl)) (eqI Go.Proofs.Try.underlying3) (.cons rfl (part1 (v := .string a0.Name) ty9 (by kernel_rfl)) (part1 (v := .string a1.Name) ty9 (by kernel_rfl)) (eqS Go.Proofs.Try.underlying9) (.cons rfl (part1 (v := .int .i64 a0.Time) ty3 (by kernel_rfl)) (part1 (v := .int .i64 a1.Time) ty3 (by kernel_rfl)) (eqI Go.Proofs.Try.underlying3) (.cons rfl (part1 (v := .int .i64 a0.Len) ty3 (by kernel_rfl)) (part1 (v := .int .i64 a1.Len) ty3 (by kernel_rfl)) (eqI Go.Proofs.Try.underlying3) (.cons rfl (partN ty24 (tail_take _ _ _ _ _ (by kernel_rfl) hl1)) (partN ty24 (tail_take _ _ _ _ _ (by kernel_rfl) hl2)) (eqAr Go.Proofs.Try.underlying24 Go.Proofs.Try.underlying5 ty5 hl1 hl2) .nil))))))) hI ?_
                  refine GmT.p' 18 65 (.bool (!(eq_ApiEvent a0 a1))) (by kernel_rfl) (by kernel_rfl) ?_
                  by_cases hb25 : (!(eq_ApiEvent a0 a1)) = true
                  · rw [if_pos hb25] at h1
                    refine GmT.keep [2, 3, 61, 65] (S' := [(2, .pointer (some ⟨b3, 0, none⟩)), (3, .pointer (some ⟨b4, 0, none⟩)), (61, .bool true), (65, .bool true)]) (by (try simp only [hb25]); kernel_rfl) ?_
                    refine GmT.p' 19 66 (undef) (by kernel_rfl) (by kernel_rfl) ?_
                    refine GmT.p' 20 67 (undef) (by kernel_rfl) (by kernel_rfl) ?_
                    refine GmT.p' 21 68 (undef) (by kernel_rfl) (by kernel_rfl) ?_
                    refine GmT.p' 22 69 (undef) (by kernel_rfl) (by kernel_rfl) ?_
                    refine GmT.p' 23 70 (undef) (by kernel_rfl) (by kernel_rfl) ?_
                    refine GmT.p' 24 71 (.bool true) (by kernel_rfl) (by kernel_rfl) ?_
                    refine GmT.p' 25 72 (.bool true) (by kernel_rfl) (by kernel_rfl) ?_
                    refine GmT.p' 26 4 (.bool true) (by kernel_rfl) (by kernel_rfl) ?_
                    refine GmT.done (by kernel_rfl) ?_
                    have hI := hI.drop
                    have hI := hI.drop
                    have e := someS h1
                    subst e
                    exact Qn.thenJ fun a ha => ⟨true, rfl, ha.keep [4] (by kernel_rfl), hI⟩
                  · rw [if_neg hb25] at h1
                    have hb25 : (!(eq_ApiEvent a0 a1)) = false := by simpa using hb25
                    refine GmT.keep [2, 3, 61, 65] (S' := [(2, .pointer (some ⟨b3, 0, none⟩)), (3, .pointer (some ⟨b4, 0, none⟩)), (61, .bool true), (65, .bool false)]) (by (try simp only [hb25]); kernel_rfl) ?_
                    refine GmT.r (i := 19) 2 (by kernel_rfl) (by kernel_rfl) (Yl.load (d := 66) (T := 26) (v := .agg (c_ApiEvent a0).toArray) (by kernel_rfl) (ldBN ty26 (l := c_ApiEvent a0) (o := 0) (cs := c_ApiEvent a0) (pick2 _ _ _) (len_ApiEvent _ hl1) (whole _ _ (len_ApiEvent _ hl1)))) hI ?_
                    refine GmT.r (i := 21) 2 (by kernel_rfl) (by kernel_rfl) (Yl.load (d := 68) (T := 26) (v := .agg (c_ApiEvent a1).toArray) (by kernel_rfl) (ldBN ty26 (l := c_ApiEvent a1) (o := 0) (cs := c_ApiEvent a1) (ent_refl _) (len_ApiEvent _ hl2) (whole _ _ (len_ApiEvent _ hl2)))) hI ?_
                    obtain ⟨y27, hc26, h1⟩ := bindS h1
                    try dsimp only at h1
                    refine GmT.o (i := 20) (by kernel_rfl) (Does.call (d := some 67) (n := 6) (vs := [.agg (c_ApiEvent a0).toArray]) (by kernel_rfl) en6 (c6 w0 w _ _ hI hT a0 hl1 _ hc26) ?_)
                    rintro e w ⟨rfl, hI⟩
                    refine ⟨_, rfl, ?_⟩
                    refine ⟨fun _ _ => hI, ?_⟩
                    obtain ⟨y29, hc28, h1⟩ := bindS h1
                    try dsimp only at h1
                    refine GmT.o (i := 22) (by kernel_rfl) (Does.call (d := some 69) (n := 6) (vs := [.agg (c_ApiEvent a1).toArray]) (by kernel_rfl) en6 (c6 w0 w _ _ hI hT a1 hl2 _ hc28) ?_)
                    rintro e w ⟨rfl, hI⟩
                    refine ⟨_, rfl, ?_⟩
                    refine ⟨fun _ _ => hI, ?_⟩
                    refine GmT.p' 23 70 (.bool (seq y27 y29)) (by kernel_rfl) (by kernel_rfl) ?_
                    refine GmT.p' 24 71 (.bool (seq y27 y29)) (by kernel_rfl) (by kernel_rfl) ?_
                    refine GmT.p' 25 72 (.bool (seq y27 y29)) (by kernel_rfl) (by kernel_rfl) ?_
                    refine GmT.p' 26 4 (.bool (seq y27 y29)) (by kernel_rfl) (by kernel_rfl) ?_
                    refine GmT.done (by kernel_rfl) ?_
                    have hI := hI.drop
                    have hI := hI.drop
                    have e := someS h1
                    subst e
                    exact Qn.thenJ fun a ha => ⟨seq y27 y29, rfl, ha.keep [4] (by kernel_rfl), hI⟩
                · rw [if_neg hb24] at h1
                  have hb24 : ((seq (sx y12 0 (if (y15.size : Int) < (y12.size : Int) then (y15.size : Int) else (y12.size : Int))) (sx y15 0 (if (y15.size : Int) < (y12.size : Int) then (y15.size : Int) else (y12.size : Int)))) == (eq_ApiEvent a0 a1)) = false := by simpa using hb24
                  refine GmT.keep [2, 3, 61] (S' := [(2, .pointer (some ⟨b3, 0, none⟩)), (3, .pointer (some ⟨b4, 0, none⟩)), (61, .bool false)]) (by (try simp only [hb24]); kernel_rfl) ?_
                  refine GmT.p' 15 62 (undef) (by kernel_rfl) (by kernel_rfl) ?_
                  refine GmT.p' 16 63 (undef) (by kernel_rfl) (by kernel_rfl) ?_
                  refine GmT.p' 17 64 (undef) (by kernel_rfl) (by kernel_rfl) ?_
                  refine GmT.p' 18 65 (undef) (by kernel_rfl) (by kernel_rfl) ?_
                  refine GmT.p' 19 66 (undef) (by kernel_rfl) (by kernel_rfl) ?_
                  refine GmT.p' 20 67 (undef) (by kernel_rfl) (by kernel_rfl) ?_
                  refine GmT.p' 21 68 (undef) (by kernel_rfl) (by kernel_rfl) ?_
                  refine GmT.p' 22 69 (undef) (by kernel_rfl) (by kernel_rfl) ?_
                  refine GmT.p' 23 70 (undef) (by kernel_rfl) (by kernel_rfl) ?_
                  refine GmT.p' 24 71 (undef) (by kernel_rfl) (by kernel_rfl) ?_
                  refine GmT.p' 25 72 (.bool false) (by kernel_rfl) (by kernel_rfl) ?_
                  refine GmT.p' 26 4 (.bool false) (by kernel_rfl) (by kernel_rfl) ?_
                  refine GmT.done (by kernel_rfl) ?_
                  have hI := hI.drop
                  have hI := hI.drop
                  have e := someS h1
                  subst e
                  exact Qn.thenJ fun a ha => ⟨false, rfl, ha.keep [4] (by kernel_rfl), hI⟩
              · rw [if_neg hb21] at h1
                have hb21 : y6 = false := by simpa using hb21
                refine GmT.keep [2, 3, 6, 8, 10, 48] (S' := [(2, .pointer (some ⟨b3, 0, none⟩)), (3, .pointer (some ⟨b4, 0, none⟩)), (6, .string y12), (8, .string y15), (10, .int .i64 (if (y15.size : Int) < (y12.size : Int) then (y15.size : Int) else (y12.size : Int))), (48, .bool false)]) (by (try simp only [hb21]); kernel_rfl) ?_
                refine GmT.p' 2 49 (undef) (by kernel_rfl) (by kernel_rfl) ?_
                refine GmT.p' 3 50 (undef) (by kernel_rfl) (by kernel_rfl) ?_
                refine GmT.p' 4 51 (undef) (by kernel_rfl) (by kernel_rfl) ?_
                refine GmT.p' 5 52 (undef) (by kernel_rfl) (by kernel_rfl) ?_
                refine GmT.p' 6 53 (undef) (by kernel_rfl) (by kernel_rfl) ?_
                refine GmT.p' 7 54 (undef) (by kernel_rfl) (by kernel_rfl) ?_
                refine GmT.p' 8 55 (undef) (by kernel_rfl) (by kernel_rfl) ?_
                refine GmT.p' 9 56 (undef) (by kernel_rfl) (by kernel_rfl) ?_
                refine GmT.p' 10 57 (undef) (by kernel_rfl) (by kernel_rfl) ?_
                refine GmT.p' 11 58 (undef) (by kernel_rfl) (by kernel_rfl) ?_
                refine GmT.p' 12 59 (undef) (by kernel_rfl) (by kernel_rfl) ?_
                refine GmT.p' 13 60 (.bool false) (by kernel_rfl) (by kernel_rfl) ?_
                refine GmT.p' 14 61 (.bool false) (by kernel_rfl) (by kernel_rfl) ?_
                refine GmT.p' 15 62 (undef) (by kernel_rfl) (by kernel_rfl) ?_
                refine GmT.p' 16 63 (undef) (by kernel_rfl) (by kernel_rfl) ?_
                refine GmT.p' 17 64 (undef) (by kernel_rfl) (by kernel_rfl) ?_
                refine GmT.p' 18 65 (undef) (by kernel_rfl) (by kernel_rfl) ?_
                refine GmT.p' 19 66 (undef) (by kernel_rfl) (by kernel_rfl) ?_
                refine GmT.p' 20 67 (undef) (by kernel_rfl) (by kernel_rfl) ?_
                refine GmT.p' 21 68 (undef) (by kernel_rfl) (by kernel_rfl) ?_
                refine GmT.p' 22 69 (undef) (by kernel_rfl) (by kernel_rfl) ?_
                refine GmT.p' 23 70 (undef) (by kernel_rfl) (by kernel_rfl) ?_
                refine GmT.p' 24 71 (undef) (by kernel_rfl) (by kernel_rfl) ?_
                refine GmT.p' 25 72 (.bool false) (by kernel_rfl) (by kernel_rfl) ?_
                refine GmT.p' 26 4 (.bool false) (by kernel_rfl) (by kernel_rfl) ?_
                refine GmT.done (by kernel_rfl) ?_
                have hI := hI.drop
                have hI := hI.drop
                have e := someS h1
                subst e
                exact Qn.thenJ fun a ha => ⟨false, rfl, ha.keep [4] (by kernel_rfl), hI⟩
            ·
              rintro a w ⟨x20, rfl, ha, hI⟩
              try dsimp only at h0
              refine CodT.of ?_ ha
              refine CodT.ret ?_
              have e := someS h0
              subst e
              refine Qn.keep [4] (S' := [(4, .bool x20)]) (by kernel_rfl) ?_
              exact post_ret (v := .bool x20) (fun a ha => RunRes.run (vs := [.bool x20]) (.tmp (t := 4) (by kernel_rfl) .nil) ha (by kernel_rfl)) ⟨rfl, hI⟩
end Go.Cen
