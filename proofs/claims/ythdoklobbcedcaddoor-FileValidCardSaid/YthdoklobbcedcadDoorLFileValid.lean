/- The walk of the law FileValid, printed by a program of ours. -/
import Derived.Test.YthdoklobbcedcadDoorWx4
set_option linter.unusedVariables false
set_option linter.unusedSimpArgs false
namespace Go.Cen
set_option maxRecDepth 100000 in
set_option maxHeartbeats 4000000 in
/-- cenotaph/cenotaphlaw08.FileValid -/
theorem c7 (w0 w : World) (Z : Hp) (A : HP) (hI : Inv w0 Z w A) (hT : Tabs Z) (a0 : Int) (a1 : ByteArray) (A_a2 : Option Addr) (c_a2 : Nat) (a2 : (List ApiOp)) (hr_a2 : RdS Z c_ApiOp 6 A_a2 c_a2 a2) (r : Bool) (h0 : law08_FileValid a0 a1 a2 = some r) :
    Calls prog 7 #[.int .i64 a0, .string a1, .slice A_a2 a2.length c_a2] w (fun e w' => e = .returned (.bool r) ∧ Inv w0 Z w' A) := by
  have e4 := calls_intro (R := (fun e w' => e = .returned (.bool r) ∧ Inv w0 Z w' A)) (w := w) (args := [.int .i64 a0, .string a1, .slice A_a2 a2.length c_a2]) (fn := Go.Proofs.Tryd.f7) 100 Go.Proofs.Tryd.func7 (by rfl) Go.Proofs.Tryd.ntmps7 (by kernel_rfl)
  refine e4 ?_
  clear e4
  unfold law08_FileValid at h0
  refine CodT.seq ?_
  refine CodT.regionL [0] (by kernel_rfl) ?_
  refine OpsT.pures (r := []) [0] [0, 1, 2] (S' := [(0, .int .i64 a0), (1, .string a1), (2, .slice A_a2 a2.length c_a2)]) (by kernel_rfl) ?_
  refine OpsT.done ?_
  refine Qn.then ?_
  refine CodT.seq ?_
  refine CodT.regionL [0, 1] (by kernel_rfl) ?_
  obtain ⟨y2, hc1, h0⟩ := bindS h0
  try dsimp only at h0
  refine OpsT.cons (Does.call (d := some 15) (n := 9) (vs := []) (by kernel_rfl) en9 (c9 w0 w _ _ hI hT _ hc1) ?_)
  rintro e w ⟨rfl, hI⟩
  refine ⟨_, rfl, ?_⟩
  refine OpsT.pures (r := []) [1] [0, 1, 2, 7] (S' := [(0, .int .i64 a0), (1, .string a1), (2, .slice A_a2 a2.length c_a2), (7, .bool y2)]) (by kernel_rfl) ?_
  refine OpsT.done ?_
  refine Qn.then ?_
  refine CodT.seq ?_
  refine CodT.seq ?_
  refine CodT.regionL [0, 1] (by kernel_rfl) ?_
  refine OpsT.pures (r := []) [0, 1] [0, 1, 2, 7, 17] (S' := [(0, .int .i64 a0), (1, .string a1), (2, .slice A_a2 a2.length c_a2), (7, .bool y2), (17, .bool (!y2))]) (by kernel_rfl) ?_
  refine OpsT.done ?_
  refine Qn.then ?_
  by_cases hb3 : (!y2) = true
  · rw [if_pos hb3] at h0
    refine CodT.yes' (b := !y2) (by kernel_rfl) hb3 ?_
    refine CodT.seq ?_
    refine CodT.regionL [0] (by kernel_rfl) ?_
    refine OpsT.pures (r := []) [0] [6] (S' := [(6, .bool false)]) (by kernel_rfl) ?_
    refine OpsT.done ?_
    refine Qn.then ?_
    refine CodT.ret ?_
    refine Qn.ret_then ?_
    have e := someS h0
    subst e
    refine Qn.keep [6] (S' := [(6, .bool false)]) (by kernel_rfl) ?_
    exact post_ret (v := .bool false) (fun a ha => RunRes.run (vs := [.bool false]) (.tmp (t := 6) (by kernel_rfl) .nil) ha (by kernel_rfl)) ⟨rfl, hI⟩
  · rw [if_neg hb3] at h0
    refine CodT.no' (b := !y2) (by kernel_rfl) (by simpa using hb3) ?_
    refine CodT.skip ?_
    refine Qn.then ?_
    refine CodT.seq ?_
    refine CodT.regionL [0, 1, 2, 3, 4, 5, 6, 7, 8] (by kernel_rfl) ?_
    refine OpsT.pures (r := [2, 3, 4, 5, 6, 7, 8]) [0, 1] [0, 1, 2, 7, 19, 20] (S' := [(0, .int .i64 a0), (1, .string a1), (2, .slice A_a2 a2.length c_a2), (7, .bool y2), (19, .int .i64 a0), (20, .string a1)]) (by kernel_rfl) ?_
    obtain ⟨⟨y5, y6, y7, y8, y9, y10, y13⟩, hc4, h0⟩ := bindS h0
    try dsimp only at h0
    refine OpsT.cons (Does.call (d := some 21) (n := 13) (vs := [.int .i64 a0, .string a1]) (by kernel_rfl) en13 (c13 w0 w _ _ hI hT a0 a1 _ hc4) ?_)
    rintro e w ⟨A11, cp12, rfl, hI⟩
    refine ⟨_, rfl, ?_⟩
    refine OpsT.pures (r := [6, 7, 8]) [3, 4, 5] [0, 1, 2, 7, 22, 23] (S' := [(0, .int .i64 a0), (1, .string a1), (2, .slice A_a2 a2.length c_a2), (7, .bool y2), (22, .agg ((([.int .i64 y5, .string y6, .string y7, .bool y8, .int .i64 y9, .slice A11 y10.length cp12] : List Value))).toArray), (23, .int .i64 y13)]) (by kernel_rfl) ?_
    refine OpsT.cons (Does.allocL (d := 8) (T := 24) ((([.int .i64 0, .string (⟨#[]⟩ : ByteArray), .string (⟨#[]⟩ : ByteArray), .bool false, .int .i64 0, .slice none 0 0] : List Value))) (by kernel_rfl) ty24 hI (by kernel_rfl) ?_)
    intro b14 w hI
    refine OpsT.cons (Does.storeLit (T := 24) (b := b14) (o := 0) (v := .agg ((([.int .i64 y5, .string y6, .string y7, .bool y8, .int .i64 y9, .slice A11 y10.length cp12] : List Value))).toArray) (l := (([.int .i64 0, .string (⟨#[]⟩ : ByteArray), .string (⟨#[]⟩ : ByteArray), .bool false, .int .i64 0, .slice none 0 0] : List Value))) (vs := (([.int .i64 y5, .string y6, .string y7, .bool y8, .int .i64 y9, .slice A11 y10.length cp12] : List Value))) (L' := (([.int .i64 y5, .string y6, .string y7, .bool y8, .int .i64 y9, .slice A11 y10.length cp12] : List Value))) (by kernel_rfl) ty24 hI (by kernel_rfl) (by kernel_rfl) (by kernel_rfl) (by kernel_rfl) (by kernel_rfl) ?_)
    intro w hI
    refine OpsT.pures (r := []) [8] [0, 1, 2, 7, 8, 9] (S' := [(0, .int .i64 a0), (1, .string a1), (2, .slice A_a2 a2.length c_a2), (7, .bool y2), (8, .pointer (some ⟨b14, 0, none⟩)), (9, .int .i64 y13)]) (by kernel_rfl) ?_
    refine OpsT.done ?_
    refine Qn.then ?_
    refine CodT.seq ?_
    obtain ⟨r1, h1, h0⟩ := bindS h0
    refine CodT.meet (fun a w => ∃ (x15 : Bool), x15 = r1 ∧ Fr 100 [(0, .int .i64 a0), (1, .string a1), (2, .slice A_a2 a2.length c_a2), (7, .bool y2), (8, .pointer (some ⟨b14, 0, none⟩)), (9, .int .i64 y13), (30, .bool x15)] a ∧ Inv w0 Z w (star (pt b14 (.cells ((([.int .i64 y5, .string y6, .string y7, .bool y8, .int .i64 y9, .slice A11 y10.length cp12] : List Value))).toArray 24 (0, 0))) (star (ownS 9 cS 1 A11 cp12 y10) A))) ?_ ?_
    ·
      refine CodT.regionL [0, 1, 2, 3, 4, 5, 6] (by kernel_rfl) ?_
      refine OpsT.pures (r := [3, 4, 5, 6]) [0, 1, 2] [0, 1, 2, 7, 8, 9, 26] (S' := [(0, .int .i64 a0), (1, .string a1), (2, .slice A_a2 a2.length c_a2), (7, .bool y2), (8, .pointer (some ⟨b14, 0, none⟩)), (9, .int .i64 y13), (26, .bool (y13 != 0))]) (by kernel_rfl) ?_
      by_cases hb16 : (y13 != 0) = true
      · rw [if_pos hb16] at h1
        refine OpsT.keep [0, 1, 2, 7, 8, 9, 26] (S' := [(0, .int .i64 a0), (1, .string a1), (2, .slice A_a2 a2.length c_a2), (7, .bool y2), (8, .pointer (some ⟨b14, 0, none⟩)), (9, .int .i64 y13), (26, .bool true)]) (by (try simp only [hb16]); kernel_rfl) ?_
        refine OpsT.pures (r := []) [3, 4, 5, 6] [0, 1, 2, 7, 8, 9, 30] (S' := [(0, .int .i64 a0), (1, .string a1), (2, .slice A_a2 a2.length c_a2), (7, .bool y2), (8, .pointer (some ⟨b14, 0, none⟩)), (9, .int .i64 y13), (30, .bool true)]) (by kernel_rfl) ?_
        refine OpsT.done ?_
        have e := someS h1
        subst e
        exact Qn.thenJ fun a ha => ⟨true, rfl, ha.keep [0, 1, 2, 7, 8, 9, 30] (by kernel_rfl), hI⟩
      · rw [if_neg hb16] at h1
        have hb16 : (y13 != 0) = false := by simpa using hb16
        refine OpsT.keep [0, 1, 2, 7, 8, 9, 26] (S' := [(0, .int .i64 a0), (1, .string a1), (2, .slice A_a2 a2.length c_a2), (7, .bool y2), (8, .pointer (some ⟨b14, 0, none⟩)), (9, .int .i64 y13), (26, .bool false)]) (by (try simp only [hb16]); kernel_rfl) ?_
        refine OpsT.pures (r := []) [3, 4, 5, 6] [0, 1, 2, 7, 8, 9, 30] (S' := [(0, .int .i64 a0), (1, .string a1), (2, .slice A_a2 a2.length c_a2), (7, .bool y2), (8, .pointer (some ⟨b14, 0, none⟩)), (9, .int .i64 y13), (30, .bool (decide ((a2.length : Int) > 20)))]) (by kernel_rfl) ?_
        refine OpsT.done ?_
        have e := someS h1
        subst e
        exact Qn.thenJ fun a ha => ⟨decide ((a2.length : Int) > 20), rfl, ha.keep [0, 1, 2, 7, 8, 9, 30] (by kernel_rfl), hI⟩
    ·
      rintro a w ⟨x15, rfl, ha, hI⟩
      try dsimp only at h0
      refine CodT.of ?_ ha
      by_cases hb17 : x15 = true
      · rw [if_pos hb17] at h0
        refine CodT.yes' (b := x15) (by kernel_rfl) hb17 ?_
        obtain ⟨r1, h1, h0⟩ := bindS h0
        refine CodT.meet (fun a w => ∃ (x18 : Bool), x18 = r1 ∧ Fr 100 [(6, .bool x18)] a ∧ Inv w0 Z w A) ?_ ?_
        ·
          refine CodT.regionL [0, 1, 2, 3, 4, 5, 6, 7, 8, 9, 10, 11, 12, 13] (by kernel_rfl) ?_
          refine OpsT.pures (r := [2, 3, 4, 5, 6, 7, 8, 9, 10, 11, 12, 13]) [0, 1] [9, 32] (S' := [(9, .int .i64 y13), (32, .bool y2)]) (by kernel_rfl) ?_
          by_cases hb19 : y2 = true
          · rw [if_pos hb19] at h1
            refine OpsT.keep [9, 32] (S' := [(9, .int .i64 y13), (32, .bool true)]) (by (try simp only [hb19]); kernel_rfl) ?_
            refine OpsT.pures (r := [5, 6, 7, 8, 9, 10, 11, 12, 13]) [2, 3, 4] [9, 32, 35] (S' := [(9, .int .i64 y13), (32, .bool true), (35, .bool (y13 == 0))]) (by kernel_rfl) ?_
            by_cases hb20 : (y13 == 0) = true
            · rw [if_pos hb20] at h1
              refine OpsT.keep [9, 32, 35] (S' := [(9, .int .i64 y13), (32, .bool true), (35, .bool true)]) (by (try simp only [hb20]); kernel_rfl) ?_
              refine OpsT.pures (r := []) [5, 6, 7, 8, 9, 10, 11, 12, 13] [6] (S' := [(6, .bool true)]) (by kernel_rfl) ?_
              refine OpsT.done ?_
              have hI := hI.drop
              have hI := hI.drop
              have e := someS h1
              subst e
              exact Qn.thenJ fun a ha => ⟨true, rfl, ha.keep [6] (by kernel_rfl), hI⟩
            · rw [if_neg hb20] at h1
              have hb20 : (y13 == 0) = false := by simpa using hb20
              refine OpsT.keep [9, 32, 35] (S' := [(9, .int .i64 y13), (32, .bool true), (35, .bool false)]) (by (try simp only [hb20]); kernel_rfl) ?_
              refine OpsT.pures (r := [9, 10, 11, 12, 13]) [5, 6, 7, 8] [9, 32, 39] (S' := [(9, .int .i64 y13), (32, .bool true), (39, .bool (y13 == 2))]) (by kernel_rfl) ?_
              by_cases hb21 : (y13 == 2) = true
              · rw [if_pos hb21] at h1
                refine OpsT.keep [9, 32, 39] (S' := [(9, .int .i64 y13), (32, .bool true), (39, .bool true)]) (by (try simp only [hb21]); kernel_rfl) ?_
                refine OpsT.pures (r := []) [9, 10, 11, 12, 13] [6] (S' := [(6, .bool true)]) (by kernel_rfl) ?_
                refine OpsT.done ?_
                have hI := hI.drop
                have hI := hI.drop
                have e := someS h1
                subst e
                exact Qn.thenJ fun a ha => ⟨true, rfl, ha.keep [6] (by kernel_rfl), hI⟩
              · rw [if_neg hb21] at h1
                have hb21 : (y13 == 2) = false := by simpa using hb21
                refine OpsT.keep [9, 32, 39] (S' := [(9, .int .i64 y13), (32, .bool true), (39, .bool false)]) (by (try simp only [hb21]); kernel_rfl) ?_
                refine OpsT.pures (r := []) [9, 10, 11, 12, 13] [6] (S' := [(6, .bool (y13 == 1))]) (by kernel_rfl) ?_
                refine OpsT.done ?_
                have hI := hI.drop
                have hI := hI.drop
                have e := someS h1
                subst e
                exact Qn.thenJ fun a ha => ⟨y13 == 1, rfl, ha.keep [6] (by kernel_rfl), hI⟩
          · rw [if_neg hb19] at h1
            have hb19 : y2 = false := by simpa using hb19
            refine OpsT.keep [9, 32] (S' := [(9, .int .i64 y13), (32, .bool false)]) (by (try simp only [hb19]); kernel_rfl) ?_
            refine OpsT.pures (r := []) [2, 3, 4, 5, 6, 7, 8, 9, 10, 11, 12, 13] [6] (S' := [(6, .bool false)]) (by kernel_rfl) ?_
            refine OpsT.done ?_
            have hI := hI.drop
            have hI := hI.drop
            have e := someS h1
            subst e
            exact Qn.thenJ fun a ha => ⟨false, rfl, ha.keep [6] (by kernel_rfl), hI⟩
        ·
          rintro a w ⟨x18, rfl, ha, hI⟩
          try dsimp only at h0
          refine CodT.of ?_ ha
          refine CodT.ret ?_
          refine Qn.ret_then ?_
          have e := someS h0
          subst e
          refine Qn.keep [6] (S' := [(6, .bool x18)]) (by kernel_rfl) ?_
          exact post_ret (v := .bool x18) (fun a ha => RunRes.run (vs := [.bool x18]) (.tmp (t := 6) (by kernel_rfl) .nil) ha (by kernel_rfl)) ⟨rfl, hI⟩
      · rw [if_neg hb17] at h0
        refine CodT.no' (b := x15) (by kernel_rfl) (by simpa using hb17) ?_
        refine CodT.skip ?_
        refine Qn.then ?_
        refine CodT.seq ?_
        refine CodT.seq ?_
        refine CodT.regionL [0] (by kernel_rfl) ?_
        refine OpsT.pures (r := []) [0] [0, 1, 2, 7, 8, 10] (S' := [(0, .int .i64 a0), (1, .string a1), (2, .slice A_a2 a2.length c_a2), (7, .bool y2), (8, .pointer (some ⟨b14, 0, none⟩)), (10, .int .i64 0)]) (by kernel_rfl) ?_
        refine OpsT.done ?_
        refine Qn.then ?_
        obtain ⟨r1, h1, h0⟩ := bindS h0
        refine CodT.meet1 (fun a w => ∃ (x24 : Int) (x25 : ByteArray) (x26 : ByteArray) (x27 : Bool) (x28 : Int) (x29 : (List ByteArray)) (Z22 : Hp) (A30 : Option Addr) (cp31 : Nat), .inr (x24, x25, x26, x27, x28, x29) = r1 ∧ Fr 100 [(0, .int .i64 a0), (1, .string a1), (7, .bool y2), (8, .pointer (some ⟨b14, 0, none⟩))] a ∧ Inv w0 Z22 w (star (pt b14 (.cells ((([.int .i64 x24, .string x25, .string x26, .bool x27, .int .i64 x28, .slice A30 x29.length cp31] : List Value))).toArray 24 (0, 0))) A) ∧ Z.le Z22 ∧ RdS Z22 cS 1 A30 cp31 x29) ?_ ?_
        ·
          refine CodT.block ?_
          have hI := hI.mono (pick2 _ _ _)
          obtain ⟨Z45, hle46, hr47, hI⟩ := ownS_freeze hI
          refine (fun a ha => wp_loopN (fun k a w => ∃ (x35 : Int) (x36 : Int) (x37 : ByteArray) (x38 : ByteArray) (x39 : Bool) (x40 : Int) (x41 : (List ByteArray)) (Z33 : Hp) (A42 : Option Addr) (cp43 : Nat), law08_FileValid.l0 a2 y2 k x35 x36 x37 x38 x39 x40 x41 = some r1 ∧ Fr 100 [(0, .int .i64 a0), (1, .string a1), (2, .slice A_a2 a2.length c_a2), (7, .bool y2), (8, .pointer (some ⟨b14, 0, none⟩)), (10, .int .i64 x35)] a ∧ Inv w0 Z33 w (star (pt b14 (.cells ((([.int .i64 x36, .string x37, .string x38, .bool x39, .int .i64 x40, .slice A42 x41.length cp43] : List Value))).toArray 24 (0, 0))) A) ∧ Z.le Z33 ∧ RdS Z33 cS 1 A42 cp43 x41) ?_ FU a w ⟨0, y5, y6, y7, y8, y9, y10, Z45, A11, cp12, h1, ha.keep [0, 1, 2, 7, 8, 10] (by kernel_rfl), hI, hle46, hr47⟩)
          clear h1 hI
          rintro k a w ⟨x35, x36, x37, x38, x39, x40, x41, Z33, A42, cp43, h1, ha, hI, hle34, hr44⟩
          rcases k with _ | k
          · cases h1
          simp only [law08_FileValid.l0] at h1
          refine CodT.of ?_ ha
          refine CodT.seq ?_
          refine CodT.seq ?_
          refine CodT.regionL [0, 1, 2, 3] (by kernel_rfl) ?_
          refine OpsT.pures (r := []) [0, 1, 2, 3] [0, 1, 2, 7, 8, 10, 47] (S' := [(0, .int .i64 a0), (1, .string a1), (2, .slice A_a2 a2.length c_a2), (7, .bool y2), (8, .pointer (some ⟨b14, 0, none⟩)), (10, .int .i64 x35), (47, .bool (decide (x35 < (a2.length : Int))))]) (by kernel_rfl) ?_
          refine OpsT.done ?_
          refine Qn.then ?_
          by_cases hb48 : (decide (x35 < (a2.length : Int))) = true
          · rw [if_pos hb48] at h1
            refine CodT.yes' (b := decide (x35 < (a2.length : Int))) (by kernel_rfl) hb48 ?_
            refine CodT.skip ?_
            refine Qn.then ?_
            refine CodT.seq ?_
            refine CodT.block ?_
            refine CodT.seq ?_
            refine CodT.drawI (n := 7) [] (by kernel_rfl) (by kernel_rfl) hI ?_
            intro w hI
            refine GmT.p' 1 51 (.slice A_a2 a2.length c_a2) (by kernel_rfl) (by kernel_rfl) ?_
            refine GmT.p' 2 52 (.int .i64 x35) (by kernel_rfl) (by kernel_rfl) ?_
            refine GmT.r (i := 0) 2 (by kernel_rfl) (by kernel_rfl) (Yl.load (d := 50) (T := 24) (v := .agg ((([.int .i64 x36, .string x37, .string x38, .bool x39, .int .i64 x40, .slice A42 x41.length cp43] : List Value))).toArray) (by kernel_rfl) (ldBN ty24 (l := (([.int .i64 x36, .string x37, .string x38, .bool x39, .int .i64 x40, .slice A42 x41.length cp43] : List Value))) (o := 0) (cs := (([.int .i64 x36, .string x37, .string x38, .bool x39, .int .i64 x40, .slice A42 x41.length cp43] : List Value))) (ent_refl _) (by kernel_rfl) (whole _ _ (by kernel_rfl)))) hI ?_
            obtain ⟨hg49, h1⟩ := guardS h1
            obtain ⟨g50, o54, hA51, hr52, hl53⟩ := RdS.get (hr_a2.mono hle34) hg49.1 hg49.2
            refine GmT.r (i := 3) 2 (by kernel_rfl) (by kernel_rfl) (Yl.indexSlice (d := 53) (T := 49) (cc := c_a2) (k := .i64) (j := x35) (g := g50) (o := o54) (by kernel_rfl) Go.Proofs.Tryd.underlying49 ty43 hA51 hg49.1 hg49.2) hI ?_
            refine GmT.r (i := 4) 2 (by kernel_rfl) (by kernel_rfl) (Yl.load (d := 54) (T := 43) (v := .agg (c_ApiOp (gt a2 x35)).toArray) (by kernel_rfl) (ldRN ty43 (cs := c_ApiOp (gt a2 x35)) 0 (fun w hC => hr52 w0 w _ hC) hl53 (whole _ _ hl53))) hI ?_
            obtain ⟨y56, hc55, h1⟩ := bindS h1
            try dsimp only at h1
            refine GmT.o (i := 5) (by kernel_rfl) (Does.call (d := some 55) (n := 23) (vs := [.agg ((([.int .i64 x36, .string x37, .string x38, .bool x39, .int .i64 x40, .slice A42 x41.length cp43] : List Value))).toArray, .agg (c_ApiOp (gt a2 x35)).toArray]) (by kernel_rfl) en23 (c23 w0 w _ _ hI (hT.mono hle34) x36 x37 x38 x39 x40 A42 cp43 x41 hr44 (gt a2 x35) _ hc55) ?_)
            rintro e w ⟨rfl, hI⟩
            refine ⟨_, rfl, ?_⟩
            refine ⟨fun _ _ => hI, ?_⟩
            refine GmT.p' 6 11 (.bool y56) (by kernel_rfl) (by kernel_rfl) ?_
            refine GmT.done (by kernel_rfl) ?_
            refine Qn.then ?_
            refine CodT.seq ?_
            refine CodT.seq ?_
            refine CodT.regionL [0, 1] (by kernel_rfl) ?_
            refine OpsT.pures (r := []) [0, 1] [0, 1, 2, 7, 8, 10, 57] (S' := [(0, .int .i64 a0), (1, .string a1), (2, .slice A_a2 a2.length c_a2), (7, .bool y2), (8, .pointer (some ⟨b14, 0, none⟩)), (10, .int .i64 x35), (57, .bool (!y56))]) (by kernel_rfl) ?_
            refine OpsT.done ?_
            refine Qn.then ?_
            by_cases hb57 : (!y56) = true
            · rw [if_pos hb57] at h1
              refine CodT.yes' (b := !y56) (by kernel_rfl) hb57 ?_
              refine CodT.seq ?_
              refine CodT.regionL [0, 1] (by kernel_rfl) ?_
              refine OpsT.pures (r := []) [0, 1] [6] (S' := [(6, .bool y2)]) (by kernel_rfl) ?_
              refine OpsT.done ?_
              refine Qn.then ?_
              refine CodT.ret ?_
              refine Qn.ret_then ?_
              refine Qn.block_ret ?_
              refine Qn.ret_then ?_
              refine Qn.ret_then ?_
              refine Qn.block_ret ?_
              refine Qn.ret_then ?_
              refine Qn.ret_then ?_
              have hI := hI.drop
              have e := someS h1
              subst e
              try dsimp only at h0
              have e := someS h0
              subst e
              refine Qn.keep [6] (S' := [(6, .bool y2)]) (by kernel_rfl) ?_
              exact post_ret (v := .bool y2) (fun a ha => RunRes.run (vs := [.bool y2]) (.tmp (t := 6) (by kernel_rfl) .nil) ha (by kernel_rfl)) ⟨rfl, hI.weaken hle34⟩
            · rw [if_neg hb57] at h1
              refine CodT.no' (b := !y56) (by kernel_rfl) (by simpa using hb57) ?_
              refine CodT.skip ?_
              refine Qn.then ?_
              obtain ⟨r2, h2, h1⟩ := bindS h1
              refine CodT.meet (fun a w => ∃ (x61 : Int) (x62 : ByteArray) (x63 : ByteArray) (x64 : Bool) (x65 : Int) (x66 : (List ByteArray)) (x70 : Int) (Z58 : Hp) (b60 : Nat) (A67 : Option Addr) (cp68 : Nat), (x61, x62, x63, x64, x65, x66, x70) = r2 ∧ Fr 100 [(0, .int .i64 a0), (1, .string a1), (2, .slice A_a2 a2.length c_a2), (7, .bool y2), (8, .pointer (some ⟨b14, 0, none⟩)), (10, .int .i64 x35), (12, .pointer (some ⟨b60, 0, none⟩)), (14, .int .i64 x70)] a ∧ Inv w0 Z58 w (star (pt b60 (.cells ((([.int .i64 x61, .string x62, .string x63, .bool x64, .int .i64 x65, .slice A67 x66.length cp68] : List Value))).toArray 24 (0, 0))) (star (pt b14 (.cells ((([.int .i64 x36, .string x37, .string x38, .bool x39, .int .i64 x40, .slice A42 x41.length cp43] : List Value))).toArray 24 (0, 0))) A)) ∧ Z33.le Z58 ∧ RdS Z58 cS 1 A67 cp68 x66) ?_ ?_
              ·
                refine CodT.drawI (n := 15) [12, 13] (by kernel_rfl) (by kernel_rfl) hI ?_
                intro w hI
                refine GmT.p' 1 61 (.slice A_a2 a2.length c_a2) (by kernel_rfl) (by kernel_rfl) ?_
                refine GmT.p' 2 62 (.int .i64 x35) (by kernel_rfl) (by kernel_rfl) ?_
                refine GmT.r (i := 0) 2 (by kernel_rfl) (by kernel_rfl) (Yl.load (d := 60) (T := 24) (v := .agg ((([.int .i64 x36, .string x37, .string x38, .bool x39, .int .i64 x40, .slice A42 x41.length cp43] : List Value))).toArray) (by kernel_rfl) (ldBN ty24 (l := (([.int .i64 x36, .string x37, .string x38, .bool x39, .int .i64 x40, .slice A42 x41.length cp43] : List Value))) (o := 0) (cs := (([.int .i64 x36, .string x37, .string x38, .bool x39, .int .i64 x40, .slice A42 x41.length cp43] : List Value))) (ent_refl _) (by kernel_rfl) (whole _ _ (by kernel_rfl)))) hI ?_
                obtain ⟨hg71, h2⟩ := guardS h2
                obtain ⟨g72, o76, hA73, hr74, hl75⟩ := RdS.get (hr_a2.mono hle34) hg71.1 hg71.2
                refine GmT.r (i := 3) 2 (by kernel_rfl) (by kernel_rfl) (Yl.indexSlice (d := 63) (T := 49) (cc := c_a2) (k := .i64) (j := x35) (g := g72) (o := o76) (by kernel_rfl) Go.Proofs.Tryd.underlying49 ty43 hA73 hg71.1 hg71.2) hI ?_
                refine GmT.r (i := 4) 2 (by kernel_rfl) (by kernel_rfl) (Yl.load (d := 64) (T := 43) (v := .agg (c_ApiOp (gt a2 x35)).toArray) (by kernel_rfl) (ldRN ty43 (cs := c_ApiOp (gt a2 x35)) 0 (fun w hC => hr74 w0 w _ hC) hl75 (whole _ _ hl75))) hI ?_
                refine GmT.several [5, 10, 11] (by kernel_rfl) rfl ?_
                intro i hi; simp only [List.mem_cons, List.not_mem_nil, or_false] at hi; rcases hi with rfl | rfl | rfl
                ·
                  obtain ⟨⟨y78, y79, y80, y81, y82, y83, y87, y89⟩, hc77, h2⟩ := bindS h2
                  try dsimp only at h2
                  rw [lst_set]
                  refine (Does.call (d := some 65) (n := 20) (vs := [.agg ((([.int .i64 x36, .string x37, .string x38, .bool x39, .int .i64 x40, .slice A42 x41.length cp43] : List Value))).toArray, .agg (c_ApiOp (gt a2 x35)).toArray, .int .i64 0]) (by kernel_rfl) en20 (c20 w0 w _ _ hI (hT.mono hle34) x36 x37 x38 x39 x40 A42 cp43 x41 hr44 (gt a2 x35) 0 _ hc77) ?_)
                  rintro e w ⟨A84, cp85, Z90, hle91, rfl, hr86, hl88, hI⟩
                  refine ⟨_, rfl, ?_⟩
                  have hC := hI
                  have hC := hC.weaken hle91
                  refine ⟨fun _ _ => hC, ?_⟩
                  refine GmT.p' 6 59 (.tuple #[.agg ((([.int .i64 y78, .string y79, .string y80, .bool y81, .int .i64 y82, .slice A84 y83.length cp85] : List Value))).toArray, .agg (c_ApiEvent y87).toArray, .int .i64 y89]) (by kernel_rfl) (by kernel_rfl) ?_
                  refine GmT.p' 7 66 (.agg ((([.int .i64 y78, .string y79, .string y80, .bool y81, .int .i64 y82, .slice A84 y83.length cp85] : List Value))).toArray) (by kernel_rfl) (by kernel_rfl) ?_
                  refine GmT.p' 8 67 (.agg (c_ApiEvent y87).toArray) (by kernel_rfl) (by kernel_rfl) ?_
                  refine GmT.p' 9 68 (.int .i64 y89) (by kernel_rfl) (by kernel_rfl) ?_
                  refine GmT.several [10, 11] (by kernel_rfl) rfl ?_
                  intro i hi; simp only [List.mem_cons, List.not_mem_nil, or_false] at hi; rcases hi with rfl | rfl
                  ·
                    rw [lst_set]
                    refine (Does.allocL (d := 12) (T := 24) ((([.int .i64 0, .string (⟨#[]⟩ : ByteArray), .string (⟨#[]⟩ : ByteArray), .bool false, .int .i64 0, .slice none 0 0] : List Value))) (by kernel_rfl) ty24 hI (by kernel_rfl) ?_)
                    intro b92 w hI
                    have hC := hI
                    have hC := hC.drop
                    have hC := hC.weaken hle91
                    refine ⟨fun _ _ => hC, ?_⟩
                    refine GmT.o (i := 11) (by kernel_rfl) (Does.allocL (d := 13) (T := 39) (c_ApiEvent (ApiEvent.mk 0 0 (⟨#[]⟩ : ByteArray) 0 0 (List.replicate 32 (0 : Int)))) (by kernel_rfl) ty39 hI (by kernel_rfl) ?_)
                    intro b93 w hI
                    have hC := hI
                    have hC := hC.drop
                    have hC := hC.drop
                    have hC := hC.weaken hle91
                    refine ⟨fun _ _ => hC, ?_⟩
                    have hI := hI.mono (pick2 _ _ _)
                    refine GmT.o (i := 12) (by kernel_rfl) (Does.storeLit (T := 24) (b := b92) (o := 0) (v := .agg ((([.int .i64 y78, .string y79, .string y80, .bool y81, .int .i64 y82, .slice A84 y83.length cp85] : List Value))).toArray) (l := (([.int .i64 0, .string (⟨#[]⟩ : ByteArray), .string (⟨#[]⟩ : ByteArray), .bool false, .int .i64 0, .slice none 0 0] : List Value))) (vs := (([.int .i64 y78, .string y79, .string y80, .bool y81, .int .i64 y82, .slice A84 y83.length cp85] : List Value))) (L' := (([.int .i64 y78, .string y79, .string y80, .bool y81, .int .i64 y82, .slice A84 y83.length cp85] : List Value))) (by kernel_rfl) ty24 hI (by kernel_rfl) (by kernel_rfl) (by kernel_rfl) (by kernel_rfl) (by kernel_rfl) ?_)
                    intro w hI
                    refine ⟨fun h => absurd h (by decide), ?_⟩
                    have hI := hI.mono (pick2 _ _ _)
                    refine GmT.o (i := 13) (by kernel_rfl) (Does.storeLit (T := 39) (b := b93) (o := 0) (v := .agg (c_ApiEvent y87).toArray) (l := c_ApiEvent (ApiEvent.mk 0 0 (⟨#[]⟩ : ByteArray) 0 0 (List.replicate 32 (0 : Int)))) (vs := c_ApiEvent y87) (L' := c_ApiEvent y87) (by kernel_rfl) ty39 hI (by kernel_rfl) (len_ApiEvent _ hl88) (by rw [(len_ApiEvent _ (by kernel_rfl))]; kernel_rfl) (ones_app _ _ (by kernel_rfl) (ones_cA _)) (lset_all _ _ (Eq.trans (len_ApiEvent _ hl88) (Eq.symm (len_ApiEvent _ (by kernel_rfl))))) ?_)
                    intro w hI
                    refine ⟨fun h => absurd h (by decide), ?_⟩
                    refine GmT.p' 14 14 (.int .i64 y89) (by kernel_rfl) (by kernel_rfl) ?_
                    refine GmT.done (by kernel_rfl) ?_
                    have hI := hI.drop
                    have e := someS h2
                    subst e
                    exact Qn.thenJ fun a ha => ⟨y78, y79, y80, y81, y82, y83, y89, Z90, b92, A84, cp85, rfl, ha.keep [0, 1, 2, 7, 8, 10, 12, 14] (by kernel_rfl), hI, hle91, hr86⟩
                  ·
                    rw [lst_set]
                    refine (Does.allocL (d := 13) (T := 39) (c_ApiEvent (ApiEvent.mk 0 0 (⟨#[]⟩ : ByteArray) 0 0 (List.replicate 32 (0 : Int)))) (by kernel_rfl) ty39 hI (by kernel_rfl) ?_)
                    intro b94 w hI
                    have hC := hI
                    have hC := hC.drop
                    have hC := hC.weaken hle91
                    refine ⟨fun _ _ => hC, ?_⟩
                    refine GmT.o (i := 10) (by kernel_rfl) (Does.allocL (d := 12) (T := 24) ((([.int .i64 0, .string (⟨#[]⟩ : ByteArray), .string (⟨#[]⟩ : ByteArray), .bool false, .int .i64 0, .slice none 0 0] : List Value))) (by kernel_rfl) ty24 hI (by kernel_rfl) ?_)
                    intro b95 w hI
                    have hC := hI
                    have hC := hC.drop
                    have hC := hC.drop
                    have hC := hC.weaken hle91
                    refine ⟨fun _ _ => hC, ?_⟩
                    refine GmT.o (i := 12) (by kernel_rfl) (Does.storeLit (T := 24) (b := b95) (o := 0) (v := .agg ((([.int .i64 y78, .string y79, .string y80, .bool y81, .int .i64 y82, .slice A84 y83.length cp85] : List Value))).toArray) (l := (([.int .i64 0, .string (⟨#[]⟩ : ByteArray), .string (⟨#[]⟩ : ByteArray), .bool false, .int .i64 0, .slice none 0 0] : List Value))) (vs := (([.int .i64 y78, .string y79, .string y80, .bool y81, .int .i64 y82, .slice A84 y83.length cp85] : List Value))) (L' := (([.int .i64 y78, .string y79, .string y80, .bool y81, .int .i64 y82, .slice A84 y83.length cp85] : List Value))) (by kernel_rfl) ty24 hI (by kernel_rfl) (by kernel_rfl) (by kernel_rfl) (by kernel_rfl) (by kernel_rfl) ?_)
                    intro w hI
                    refine ⟨fun h => absurd h (by decide), ?_⟩
                    have hI := hI.mono (pick2 _ _ _)
                    refine GmT.o (i := 13) (by kernel_rfl) (Does.storeLit (T := 39) (b := b94) (o := 0) (v := .agg (c_ApiEvent y87).toArray) (l := c_ApiEvent (ApiEvent.mk 0 0 (⟨#[]⟩ : ByteArray) 0 0 (List.replicate 32 (0 : Int)))) (vs := c_ApiEvent y87) (L' := c_ApiEvent y87) (by kernel_rfl) ty39 hI (by kernel_rfl) (len_ApiEvent _ hl88) (by rw [(len_ApiEvent _ (by kernel_rfl))]; kernel_rfl) (ones_app _ _ (by kernel_rfl) (ones_cA _)) (lset_all _ _ (Eq.trans (len_ApiEvent _ hl88) (Eq.symm (len_ApiEvent _ (by kernel_rfl))))) ?_)
                    intro w hI
                    refine ⟨fun h => absurd h (by decide), ?_⟩
                    refine GmT.p' 14 14 (.int .i64 y89) (by kernel_rfl) (by kernel_rfl) ?_
                    refine GmT.done (by kernel_rfl) ?_
                    have hI := hI.drop
                    have e := someS h2
                    subst e
                    exact Qn.thenJ fun a ha => ⟨y78, y79, y80, y81, y82, y83, y89, Z90, b95, A84, cp85, rfl, ha.keep [0, 1, 2, 7, 8, 10, 12, 14] (by kernel_rfl), hI, hle91, hr86⟩
                ·
                  rw [lst_set]
                  refine (Does.allocL (d := 12) (T := 24) ((([.int .i64 0, .string (⟨#[]⟩ : ByteArray), .string (⟨#[]⟩ : ByteArray), .bool false, .int .i64 0, .slice none 0 0] : List Value))) (by kernel_rfl) ty24 hI (by kernel_rfl) ?_)
                  intro b96 w hI
                  have hC := hI
                  have hC := hC.drop
                  refine ⟨fun _ _ => hC, ?_⟩
                  refine GmT.several [5, 11] (by kernel_rfl) rfl ?_
                  intro i hi; simp only [List.mem_cons, List.not_mem_nil, or_false] at hi; rcases hi with rfl | rfl
                  ·
                    obtain ⟨⟨y98, y99, y100, y101, y102, y103, y107, y109⟩, hc97, h2⟩ := bindS h2
                    try dsimp only at h2
                    rw [lst_set]
                    refine (Does.call (d := some 65) (n := 20) (vs := [.agg ((([.int .i64 x36, .string x37, .string x38, .bool x39, .int .i64 x40, .slice A42 x41.length cp43] : List Value))).toArray, .agg (c_ApiOp (gt a2 x35)).toArray, .int .i64 0]) (by kernel_rfl) en20 (c20 w0 w _ _ hI (hT.mono hle34) x36 x37 x38 x39 x40 A42 cp43 x41 hr44 (gt a2 x35) 0 _ hc97) ?_)
                    rintro e w ⟨A104, cp105, Z110, hle111, rfl, hr106, hl108, hI⟩
                    refine ⟨_, rfl, ?_⟩
                    have hC := hI
                    have hC := hC.drop
                    have hC := hC.weaken hle111
                    refine ⟨fun _ _ => hC, ?_⟩
                    refine GmT.p' 6 59 (.tuple #[.agg ((([.int .i64 y98, .string y99, .string y100, .bool y101, .int .i64 y102, .slice A104 y103.length cp105] : List Value))).toArray, .agg (c_ApiEvent y107).toArray, .int .i64 y109]) (by kernel_rfl) (by kernel_rfl) ?_
                    refine GmT.p' 7 66 (.agg ((([.int .i64 y98, .string y99, .string y100, .bool y101, .int .i64 y102, .slice A104 y103.length cp105] : List Value))).toArray) (by kernel_rfl) (by kernel_rfl) ?_
                    refine GmT.p' 8 67 (.agg (c_ApiEvent y107).toArray) (by kernel_rfl) (by kernel_rfl) ?_
                    refine GmT.p' 9 68 (.int .i64 y109) (by kernel_rfl) (by kernel_rfl) ?_
                    refine GmT.o (i := 11) (by kernel_rfl) (Does.allocL (d := 13) (T := 39) (c_ApiEvent (ApiEvent.mk 0 0 (⟨#[]⟩ : ByteArray) 0 0 (List.replicate 32 (0 : Int)))) (by kernel_rfl) ty39 hI (by kernel_rfl) ?_)
                    intro b112 w hI
                    have hC := hI
                    have hC := hC.drop
                    have hC := hC.drop
                    have hC := hC.weaken hle111
                    refine ⟨fun _ _ => hC, ?_⟩
                    have hI := hI.mono (pick2 _ _ _)
                    refine GmT.o (i := 12) (by kernel_rfl) (Does.storeLit (T := 24) (b := b96) (o := 0) (v := .agg ((([.int .i64 y98, .string y99, .string y100, .bool y101, .int .i64 y102, .slice A104 y103.length cp105] : List Value))).toArray) (l := (([.int .i64 0, .string (⟨#[]⟩ : ByteArray), .string (⟨#[]⟩ : ByteArray), .bool false, .int .i64 0, .slice none 0 0] : List Value))) (vs := (([.int .i64 y98, .string y99, .string y100, .bool y101, .int .i64 y102, .slice A104 y103.length cp105] : List Value))) (L' := (([.int .i64 y98, .string y99, .string y100, .bool y101, .int .i64 y102, .slice A104 y103.length cp105] : List Value))) (by kernel_rfl) ty24 hI (by kernel_rfl) (by kernel_rfl) (by kernel_rfl) (by kernel_rfl) (by kernel_rfl) ?_)
                    intro w hI
                    refine ⟨fun h => absurd h (by decide), ?_⟩
                    have hI := hI.mono (pick2 _ _ _)
                    refine GmT.o (i := 13) (by kernel_rfl) (Does.storeLit (T := 39) (b := b112) (o := 0) (v := .agg (c_ApiEvent y107).toArray) (l := c_ApiEvent (ApiEvent.mk 0 0 (⟨#[]⟩ : ByteArray) 0 0 (List.replicate 32 (0 : Int)))) (vs := c_ApiEvent y107) (L' := c_ApiEvent y107) (by kernel_rfl) ty39 hI (by kernel_rfl) (len_ApiEvent _ hl108) (by rw [(len_ApiEvent _ (by kernel_rfl))]; kernel_rfl) (ones_app _ _ (by kernel_rfl) (ones_cA _)) (lset_all _ _ (Eq.trans (len_ApiEvent _ hl108) (Eq.symm (len_ApiEvent _ (by kernel_rfl))))) ?_)
                    intro w hI
                    refine ⟨fun h => absurd h (by decide), ?_⟩
                    refine GmT.p' 14 14 (.int .i64 y109) (by kernel_rfl) (by kernel_rfl) ?_
                    refine GmT.done (by kernel_rfl) ?_
                    have hI := hI.drop
                    have e := someS h2
                    subst e
                    exact Qn.thenJ fun a ha => ⟨y98, y99, y100, y101, y102, y103, y109, Z110, b96, A104, cp105, rfl, ha.keep [0, 1, 2, 7, 8, 10, 12, 14] (by kernel_rfl), hI, hle111, hr106⟩
                  ·
                    rw [lst_set]
                    refine (Does.allocL (d := 13) (T := 39) (c_ApiEvent (ApiEvent.mk 0 0 (⟨#[]⟩ : ByteArray) 0 0 (List.replicate 32 (0 : Int)))) (by kernel_rfl) ty39 hI (by kernel_rfl) ?_)
                    intro b113 w hI
                    have hC := hI
                    have hC := hC.drop
                    have hC := hC.drop
                    refine ⟨fun _ _ => hC, ?_⟩
                    obtain ⟨⟨y115, y116, y117, y118, y119, y120, y124, y126⟩, hc114, h2⟩ := bindS h2
                    try dsimp only at h2
                    refine GmT.o (i := 5) (by kernel_rfl) (Does.call (d := some 65) (n := 20) (vs := [.agg ((([.int .i64 x36, .string x37, .string x38, .bool x39, .int .i64 x40, .slice A42 x41.length cp43] : List Value))).toArray, .agg (c_ApiOp (gt a2 x35)).toArray, .int .i64 0]) (by kernel_rfl) en20 (c20 w0 w _ _ hI (hT.mono hle34) x36 x37 x38 x39 x40 A42 cp43 x41 hr44 (gt a2 x35) 0 _ hc114) ?_)
                    rintro e w ⟨A121, cp122, Z127, hle128, rfl, hr123, hl125, hI⟩
                    refine ⟨_, rfl, ?_⟩
                    have hC := hI
                    have hC := hC.drop
                    have hC := hC.drop
                    have hC := hC.weaken hle128
                    refine ⟨fun _ _ => hC, ?_⟩
                    refine GmT.p' 6 59 (.tuple #[.agg ((([.int .i64 y115, .string y116, .string y117, .bool y118, .int .i64 y119, .slice A121 y120.length cp122] : List Value))).toArray, .agg (c_ApiEvent y124).toArray, .int .i64 y126]) (by kernel_rfl) (by kernel_rfl) ?_
                    refine GmT.p' 7 66 (.agg ((([.int .i64 y115, .string y116, .string y117, .bool y118, .int .i64 y119, .slice A121 y120.length cp122] : List Value))).toArray) (by kernel_rfl) (by kernel_rfl) ?_
                    refine GmT.p' 8 67 (.agg (c_ApiEvent y124).toArray) (by kernel_rfl) (by kernel_rfl) ?_
                    refine GmT.p' 9 68 (.int .i64 y126) (by kernel_rfl) (by kernel_rfl) ?_
                    have hI := hI.mono (pick2 _ _ _)
                    refine GmT.o (i := 12) (by kernel_rfl) (Does.storeLit (T := 24) (b := b96) (o := 0) (v := .agg ((([.int .i64 y115, .string y116, .string y117, .bool y118, .int .i64 y119, .slice A121 y120.length cp122] : List Value))).toArray) (l := (([.int .i64 0, .string (⟨#[]⟩ : ByteArray), .string (⟨#[]⟩ : ByteArray), .bool false, .int .i64 0, .slice none 0 0] : List Value))) (vs := (([.int .i64 y115, .string y116, .string y117, .bool y118, .int .i64 y119, .slice A121 y120.length cp122] : List Value))) (L' := (([.int .i64 y115, .string y116, .string y117, .bool y118, .int .i64 y119, .slice A121 y120.length cp122] : List Value))) (by kernel_rfl) ty24 hI (by kernel_rfl) (by kernel_rfl) (by kernel_rfl) (by kernel_rfl) (by kernel_rfl) ?_)
                    intro w hI
                    refine ⟨fun h => absurd h (by decide), ?_⟩
                    have hI := hI.mono (pick2 _ _ _)
                    refine GmT.o (i := 13) (by kernel_rfl) (Does.storeLit (T := 39) (b := b113) (o := 0) (v := .agg (c_ApiEvent y124).toArray) (l := c_ApiEvent (ApiEvent.mk 0 0 (⟨#[]⟩ : ByteArray) 0 0 (List.replicate 32 (0 : Int)))) (vs := c_ApiEvent y124) (L' := c_ApiEvent y124) (by kernel_rfl) ty39 hI (by kernel_rfl) (len_ApiEvent _ hl125) (by rw [(len_ApiEvent _ (by kernel_rfl))]; kernel_rfl) (ones_app _ _ (by kernel_rfl) (ones_cA _)) (lset_all _ _ (Eq.trans (len_ApiEvent _ hl125) (Eq.symm (len_ApiEvent _ (by kernel_rfl))))) ?_)
                    intro w hI
                    refine ⟨fun h => absurd h (by decide), ?_⟩
                    refine GmT.p' 14 14 (.int .i64 y126) (by kernel_rfl) (by kernel_rfl) ?_
                    refine GmT.done (by kernel_rfl) ?_
                    have hI := hI.drop
                    have e := someS h2
                    subst e
                    exact Qn.thenJ fun a ha => ⟨y115, y116, y117, y118, y119, y120, y126, Z127, b96, A121, cp122, rfl, ha.keep [0, 1, 2, 7, 8, 10, 12, 14] (by kernel_rfl), hI, hle128, hr123⟩
                ·
                  rw [lst_set]
                  refine (Does.allocL (d := 13) (T := 39) (c_ApiEvent (ApiEvent.mk 0 0 (⟨#[]⟩ : ByteArray) 0 0 (List.replicate 32 (0 : Int)))) (by kernel_rfl) ty39 hI (by kernel_rfl) ?_)
                  intro b129 w hI
                  have hC := hI
                  have hC := hC.drop
                  refine ⟨fun _ _ => hC, ?_⟩
                  refine GmT.several [5, 10] (by kernel_rfl) rfl ?_
                  intro i hi; simp only [List.mem_cons, List.not_mem_nil, or_false] at hi; rcases hi with rfl | rfl
                  ·
                    obtain ⟨⟨y131, y132, y133, y134, y135, y136, y140, y142⟩, hc130, h2⟩ := bindS h2
                    try dsimp only at h2
                    rw [lst_set]
                    refine (Does.call (d := some 65) (n := 20) (vs := [.agg ((([.int .i64 x36, .string x37, .string x38, .bool x39, .int .i64 x40, .slice A42 x41.length cp43] : List Value))).toArray, .agg (c_ApiOp (gt a2 x35)).toArray, .int .i64 0]) (by kernel_rfl) en20 (c20 w0 w _ _ hI (hT.mono hle34) x36 x37 x38 x39 x40 A42 cp43 x41 hr44 (gt a2 x35) 0 _ hc130) ?_)
                    rintro e w ⟨A137, cp138, Z143, hle144, rfl, hr139, hl141, hI⟩
                    refine ⟨_, rfl, ?_⟩
                    have hC := hI
                    have hC := hC.drop
                    have hC := hC.weaken hle144
                    refine ⟨fun _ _ => hC, ?_⟩
                    refine GmT.p' 6 59 (.tuple #[.agg ((([.int .i64 y131, .string y132, .string y133, .bool y134, .int .i64 y135, .slice A137 y136.length cp138] : List Value))).toArray, .agg (c_ApiEvent y140).toArray, .int .i64 y142]) (by kernel_rfl) (by kernel_rfl) ?_
                    refine GmT.p' 7 66 (.agg ((([.int .i64 y131, .string y132, .string y133, .bool y134, .int .i64 y135, .slice A137 y136.length cp138] : List Value))).toArray) (by kernel_rfl) (by kernel_rfl) ?_
                    refine GmT.p' 8 67 (.agg (c_ApiEvent y140).toArray) (by kernel_rfl) (by kernel_rfl) ?_
                    refine GmT.p' 9 68 (.int .i64 y142) (by kernel_rfl) (by kernel_rfl) ?_
                    refine GmT.o (i := 10) (by kernel_rfl) (Does.allocL (d := 12) (T := 24) ((([.int .i64 0, .string (⟨#[]⟩ : ByteArray), .string (⟨#[]⟩ : ByteArray), .bool false, .int .i64 0, .slice none 0 0] : List Value))) (by kernel_rfl) ty24 hI (by kernel_rfl) ?_)
                    intro b145 w hI
                    have hC := hI
                    have hC := hC.drop
                    have hC := hC.drop
                    have hC := hC.weaken hle144
                    refine ⟨fun _ _ => hC, ?_⟩
                    refine GmT.o (i := 12) (by kernel_rfl) (Does.storeLit (T := 24) (b := b145) (o := 0) (v := .agg ((([.int .i64 y131, .string y132, .string y133, .bool y134, .int .i64 y135, .slice A137 y136.length cp138] : List Value))).toArray) (l := (([.int .i64 0, .string (⟨#[]⟩ : ByteArray), .string (⟨#[]⟩ : ByteArray), .bool false, .int .i64 0, .slice none 0 0] : List Value))) (vs := (([.int .i64 y131, .string y132, .string y133, .bool y134, .int .i64 y135, .slice A137 y136.length cp138] : List Value))) (L' := (([.int .i64 y131, .string y132, .string y133, .bool y134, .int .i64 y135, .slice A137 y136.length cp138] : List Value))) (by kernel_rfl) ty24 hI (by kernel_rfl) (by kernel_rfl) (by kernel_rfl) (by kernel_rfl) (by kernel_rfl) ?_)
                    intro w hI
                    refine ⟨fun h => absurd h (by decide), ?_⟩
                    have hI := hI.mono (pick2 _ _ _)
                    refine GmT.o (i := 13) (by kernel_rfl) (Does.storeLit (T := 39) (b := b129) (o := 0) (v := .agg (c_ApiEvent y140).toArray) (l := c_ApiEvent (ApiEvent.mk 0 0 (⟨#[]⟩ : ByteArray) 0 0 (List.replicate 32 (0 : Int)))) (vs := c_ApiEvent y140) (L' := c_ApiEvent y140) (by kernel_rfl) ty39 hI (by kernel_rfl) (len_ApiEvent _ hl141) (by rw [(len_ApiEvent _ (by kernel_rfl))]; kernel_rfl) (ones_app _ _ (by kernel_rfl) (ones_cA _)) (lset_all _ _ (Eq.trans (len_ApiEvent _ hl141) (Eq.symm (len_ApiEvent _ (by kernel_rfl))))) ?_)
                    intro w hI
                    refine ⟨fun h => absurd h (by decide), ?_⟩
                    refine GmT.p' 14 14 (.int .i64 y142) (by kernel_rfl) (by kernel_rfl) ?_
                    refine GmT.done (by kernel_rfl) ?_
                    have hI := hI.drop
                    have e := someS h2
                    subst e
                    exact Qn.thenJ fun a ha => ⟨y131, y132, y133, y134, y135, y136, y142, Z143, b145, A137, cp138, rfl, ha.keep [0, 1, 2, 7, 8, 10, 12, 14] (by kernel_rfl), hI, hle144, hr139⟩
                  ·
                    rw [lst_set]
                    refine (Does.allocL (d := 12) (T := 24) ((([.int .i64 0, .string (⟨#[]⟩ : ByteArray), .string (⟨#[]⟩ : ByteArray), .bool false, .int .i64 0, .slice none 0 0] : List Value))) (by kernel_rfl) ty24 hI (by kernel_rfl) ?_)
                    intro b146 w hI
                    have hC := hI
                    have hC := hC.drop
                    have hC := hC.drop
                    refine ⟨fun _ _ => hC, ?_⟩
                    obtain ⟨⟨y148, y149, y150, y151, y152, y153, y157, y159⟩, hc147, h2⟩ := bindS h2
                    try dsimp only at h2
                    refine GmT.o (i := 5) (by kernel_rfl) (Does.call (d := some 65) (n := 20) (vs := [.agg ((([.int .i64 x36, .string x37, .string x38, .bool x39, .int .i64 x40, .slice A42 x41.length cp43] : List Value))).toArray, .agg (c_ApiOp (gt a2 x35)).toArray, .int .i64 0]) (by kernel_rfl) en20 (c20 w0 w _ _ hI (hT.mono hle34) x36 x37 x38 x39 x40 A42 cp43 x41 hr44 (gt a2 x35) 0 _ hc147) ?_)
                    rintro e w ⟨A154, cp155, Z160, hle161, rfl, hr156, hl158, hI⟩
                    refine ⟨_, rfl, ?_⟩
                    have hC := hI
                    have hC := hC.drop
                    have hC := hC.drop
                    have hC := hC.weaken hle161
                    refine ⟨fun _ _ => hC, ?_⟩
                    refine GmT.p' 6 59 (.tuple #[.agg ((([.int .i64 y148, .string y149, .string y150, .bool y151, .int .i64 y152, .slice A154 y153.length cp155] : List Value))).toArray, .agg (c_ApiEvent y157).toArray, .int .i64 y159]) (by kernel_rfl) (by kernel_rfl) ?_
                    refine GmT.p' 7 66 (.agg ((([.int .i64 y148, .string y149, .string y150, .bool y151, .int .i64 y152, .slice A154 y153.length cp155] : List Value))).toArray) (by kernel_rfl) (by kernel_rfl) ?_
                    refine GmT.p' 8 67 (.agg (c_ApiEvent y157).toArray) (by kernel_rfl) (by kernel_rfl) ?_
                    refine GmT.p' 9 68 (.int .i64 y159) (by kernel_rfl) (by kernel_rfl) ?_
                    refine GmT.o (i := 12) (by kernel_rfl) (Does.storeLit (T := 24) (b := b146) (o := 0) (v := .agg ((([.int .i64 y148, .string y149, .string y150, .bool y151, .int .i64 y152, .slice A154 y153.length cp155] : List Value))).toArray) (l := (([.int .i64 0, .string (⟨#[]⟩ : ByteArray), .string (⟨#[]⟩ : ByteArray), .bool false, .int .i64 0, .slice none 0 0] : List Value))) (vs := (([.int .i64 y148, .string y149, .string y150, .bool y151, .int .i64 y152, .slice A154 y153.length cp155] : List Value))) (L' := (([.int .i64 y148, .string y149, .string y150, .bool y151, .int .i64 y152, .slice A154 y153.length cp155] : List Value))) (by kernel_rfl) ty24 hI (by kernel_rfl) (by kernel_rfl) (by kernel_rfl) (by kernel_rfl) (by kernel_rfl) ?_)
                    intro w hI
                    refine ⟨fun h => absurd h (by decide), ?_⟩
                    have hI := hI.mono (pick2 _ _ _)
                    refine GmT.o (i := 13) (by kernel_rfl) (Does.storeLit (T := 39) (b := b129) (o := 0) (v := .agg (c_ApiEvent y157).toArray) (l := c_ApiEvent (ApiEvent.mk 0 0 (⟨#[]⟩ : ByteArray) 0 0 (List.replicate 32 (0 : Int)))) (vs := c_ApiEvent y157) (L' := c_ApiEvent y157) (by kernel_rfl) ty39 hI (by kernel_rfl) (len_ApiEvent _ hl158) (by rw [(len_ApiEvent _ (by kernel_rfl))]; kernel_rfl) (ones_app _ _ (by kernel_rfl) (ones_cA _)) (lset_all _ _ (Eq.trans (len_ApiEvent _ hl158) (Eq.symm (len_ApiEvent _ (by kernel_rfl))))) ?_)
                    intro w hI
                    refine ⟨fun h => absurd h (by decide), ?_⟩
                    refine GmT.p' 14 14 (.int .i64 y159) (by kernel_rfl) (by kernel_rfl) ?_
                    refine GmT.done (by kernel_rfl) ?_
                    have hI := hI.drop
                    have e := someS h2
                    subst e
                    exact Qn.thenJ fun a ha => ⟨y148, y149, y150, y151, y152, y153, y159, Z160, b146, A154, cp155, rfl, ha.keep [0, 1, 2, 7, 8, 10, 12, 14] (by kernel_rfl), hI, hle161, hr156⟩
              ·
                rintro a w ⟨x61, x62, x63, x64, x65, x66, x70, Z58, b60, A67, cp68, rfl, ha, hI, hle59, hr69⟩
                try dsimp only at h1
                refine CodT.of ?_ ha
                obtain ⟨r2, h2, h1⟩ := bindS h1
                refine CodT.meet (fun a w => ∃ (x162 : Int) (x163 : ByteArray) (x164 : ByteArray) (x165 : Bool) (x166 : Int) (x167 : (List ByteArray)) (A168 : Option Addr) (cp169 : Nat), (x162, x163, x164, x165, x166, x167) = r2 ∧ Fr 100 [(0, .int .i64 a0), (1, .string a1), (2, .slice A_a2 a2.length c_a2), (7, .bool y2), (8, .pointer (some ⟨b14, 0, none⟩)), (10, .int .i64 x35)] a ∧ Inv w0 Z58 w (star (pt b14 (.cells ((([.int .i64 x162, .string x163, .string x164, .bool x165, .int .i64 x166, .slice A168 x167.length cp169] : List Value))).toArray 24 (0, 0))) A) ∧ RdS Z58 cS 1 A168 cp169 x167) ?_ ?_
                ·
                  obtain ⟨r3, h3, h2⟩ := bindS h2
                  refine CodT.meet (fun a w => ∃ (x171 : Bool), x171 = r3 ∧ Fr 100 [(0, .int .i64 a0), (1, .string a1), (2, .slice A_a2 a2.length c_a2), (7, .bool y2), (8, .pointer (some ⟨b14, 0, none⟩)), (10, .int .i64 x35), (12, .pointer (some ⟨b60, 0, none⟩)), (78, .bool x171)] a ∧ Inv w0 Z58 w (star (pt b60 (.cells ((([.int .i64 x61, .string x62, .string x63, .bool x64, .int .i64 x65, .slice A67 x66.length cp68] : List Value))).toArray 24 (0, 0))) (star (pt b14 (.cells ((([.int .i64 x36, .string x37, .string x38, .bool x39, .int .i64 x40, .slice A42 x41.length cp43] : List Value))).toArray 24 (0, 0))) A))) ?_ ?_
                  ·
                    refine CodT.regionL [0, 1, 2, 3, 4, 5, 6, 7, 8, 9] (by kernel_rfl) ?_
                    refine OpsT.pures (r := [3, 4, 5, 6, 7, 8, 9]) [0, 1, 2] [0, 1, 2, 7, 8, 10, 12, 71] (S' := [(0, .int .i64 a0), (1, .string a1), (2, .slice A_a2 a2.length c_a2), (7, .bool y2), (8, .pointer (some ⟨b14, 0, none⟩)), (10, .int .i64 x35), (12, .pointer (some ⟨b60, 0, none⟩)), (71, .bool (x70 == 0))]) (by kernel_rfl) ?_
                    by_cases hb172 : (x70 == 0) = true
                    · rw [if_pos hb172] at h3
                      refine OpsT.keep [0, 1, 2, 7, 8, 10, 12, 71] (S' := [(0, .int .i64 a0), (1, .string a1), (2, .slice A_a2 a2.length c_a2), (7, .bool y2), (8, .pointer (some ⟨b14, 0, none⟩)), (10, .int .i64 x35), (12, .pointer (some ⟨b60, 0, none⟩)), (71, .bool true)]) (by (try simp only [hb172]); kernel_rfl) ?_
                      refine OpsT.pures (r := [5, 6, 7, 8, 9]) [3, 4] [0, 1, 2, 7, 8, 10, 12, 71, 72, 73] (S' := [(0, .int .i64 a0), (1, .string a1), (2, .slice A_a2 a2.length c_a2), (7, .bool y2), (8, .pointer (some ⟨b14, 0, none⟩)), (10, .int .i64 x35), (12, .pointer (some ⟨b60, 0, none⟩)), (71, .bool true), (72, .slice A_a2 a2.length c_a2), (73, .int .i64 x35)]) (by kernel_rfl) ?_
                      obtain ⟨hg173, h3⟩ := guardS h3
                      obtain ⟨g174, o178, hA175, hr176, hl177⟩ := RdS.get (hr_a2.mono (Hp.le_trans hle34 hle59)) hg173.1 hg173.2
                      refine OpsT.cons (Does.yi (Yl.indexSlice (d := 74) (T := 49) (cc := c_a2) (k := .i64) (j := x35) (g := g174) (o := o178) (by kernel_rfl) Go.Proofs.Tryd.underlying49 ty43 hA175 hg173.1 hg173.2) hI ?_)
                      refine OpsT.pures (r := [7, 8, 9]) [6] [0, 1, 2, 7, 8, 10, 12, 71, 75] (S' := [(0, .int .i64 a0), (1, .string a1), (2, .slice A_a2 a2.length c_a2), (7, .bool y2), (8, .pointer (some ⟨b14, 0, none⟩)), (10, .int .i64 x35), (12, .pointer (some ⟨b60, 0, none⟩)), (71, .bool true), (75, .pointer (some ⟨g174, o178 + x35.toNat * 6, none⟩))]) (by kernel_rfl) ?_
                      refine OpsT.cons (Does.yi (Yl.load (d := 76) (T := 35) (v := .int .i64 ((gt a2 x35).Kind)) (by kernel_rfl) (ldR ty35 (v := .int .i64 ((gt a2 x35).Kind)) 0 (fun w hC => hr176 w0 w _ hC) (by kernel_rfl))) hI ?_)
                      refine OpsT.pures (r := []) [8, 9] [0, 1, 2, 7, 8, 10, 12, 78] (S' := [(0, .int .i64 a0), (1, .string a1), (2, .slice A_a2 a2.length c_a2), (7, .bool y2), (8, .pointer (some ⟨b14, 0, none⟩)), (10, .int .i64 x35), (12, .pointer (some ⟨b60, 0, none⟩)), (78, .bool (((gt a2 x35).Kind) != 6))]) (by kernel_rfl) ?_
                      refine OpsT.done ?_
                      have e := someS h3
                      subst e
                      exact Qn.thenJ fun a ha => ⟨((gt a2 x35).Kind) != 6, rfl, ha.keep [0, 1, 2, 7, 8, 10, 12, 78] (by kernel_rfl), hI⟩
                    · rw [if_neg hb172] at h3
                      have hb172 : (x70 == 0) = false := by simpa using hb172
                      refine OpsT.keep [0, 1, 2, 7, 8, 10, 12, 71] (S' := [(0, .int .i64 a0), (1, .string a1), (2, .slice A_a2 a2.length c_a2), (7, .bool y2), (8, .pointer (some ⟨b14, 0, none⟩)), (10, .int .i64 x35), (12, .pointer (some ⟨b60, 0, none⟩)), (71, .bool false)]) (by (try simp only [hb172]); kernel_rfl) ?_
                      refine OpsT.pures (r := []) [3, 4, 5, 6, 7, 8, 9] [0, 1, 2, 7, 8, 10, 12, 78] (S' := [(0, .int .i64 a0), (1, .string a1), (2, .slice A_a2 a2.length c_a2), (7, .bool y2), (8, .pointer (some ⟨b14, 0, none⟩)), (10, .int .i64 x35), (12, .pointer (some ⟨b60, 0, none⟩)), (78, .bool false)]) (by kernel_rfl) ?_
                      refine OpsT.done ?_
                      have e := someS h3
                      subst e
                      exact Qn.thenJ fun a ha => ⟨false, rfl, ha.keep [0, 1, 2, 7, 8, 10, 12, 78] (by kernel_rfl), hI⟩
                  ·
                    rintro a w ⟨x171, rfl, ha, hI⟩
                    try dsimp only at h2
                    refine CodT.of ?_ ha
                    by_cases hb179 : x171 = true
                    · rw [if_pos hb179] at h2
                      refine CodT.yes' (b := x171) (by kernel_rfl) hb179 ?_
                      refine CodT.regionL [0, 1] (by kernel_rfl) ?_
                      refine OpsT.cons (Does.yi (Yl.load (d := 79) (T := 24) (v := .agg ((([.int .i64 x61, .string x62, .string x63, .bool x64, .int .i64 x65, .slice A67 x66.length cp68] : List Value))).toArray) (by kernel_rfl) (ldBN ty24 (l := (([.int .i64 x61, .string x62, .string x63, .bool x64, .int .i64 x65, .slice A67 x66.length cp68] : List Value))) (o := 0) (cs := (([.int .i64 x61, .string x62, .string x63, .bool x64, .int .i64 x65, .slice A67 x66.length cp68] : List Value))) (ent_refl _) (by kernel_rfl) (whole _ _ (by kernel_rfl)))) hI ?_)
                      have hI := hI.mono (pick2 _ _ _)
                      refine OpsT.cons (Does.storeLit (T := 24) (b := b14) (o := 0) (v := .agg ((([.int .i64 x61, .string x62, .string x63, .bool x64, .int .i64 x65, .slice A67 x66.length cp68] : List Value))).toArray) (l := (([.int .i64 x36, .string x37, .string x38, .bool x39, .int .i64 x40, .slice A42 x41.length cp43] : List Value))) (vs := (([.int .i64 x61, .string x62, .string x63, .bool x64, .int .i64 x65, .slice A67 x66.length cp68] : List Value))) (L' := (([.int .i64 x61, .string x62, .string x63, .bool x64, .int .i64 x65, .slice A67 x66.length cp68] : List Value))) (by kernel_rfl) ty24 hI (by kernel_rfl) (by kernel_rfl) (by kernel_rfl) (by kernel_rfl) (by kernel_rfl) ?_)
                      intro w hI
                      refine OpsT.done ?_
                      have hI := hI.mono (pick2 _ _ _)
                      have hI := hI.drop
                      have e := someS h2
                      subst e
                      exact Qn.thenJ fun a ha => ⟨x61, x62, x63, x64, x65, x66, A67, cp68, rfl, ha.keep [0, 1, 2, 7, 8, 10] (by kernel_rfl), hI, hr69⟩
                    · rw [if_neg hb179] at h2
                      refine CodT.no' (b := x171) (by kernel_rfl) (by simpa using hb179) ?_
                      refine CodT.skip ?_
                      have hI := hI.drop
                      have e := someS h2
                      subst e
                      exact Qn.thenJ fun a ha => ⟨x36, x37, x38, x39, x40, x41, A42, cp43, rfl, ha.keep [0, 1, 2, 7, 8, 10] (by kernel_rfl), hI, (hr44.mono hle59)⟩
                ·
                  rintro a w ⟨x162, x163, x164, x165, x166, x167, A168, cp169, rfl, ha, hI, hr170⟩
                  try dsimp only at h1
                  refine CodT.of ?_ ha
                  refine CodT.seq ?_
                  refine CodT.regionL [0, 1, 2] (by kernel_rfl) ?_
                  refine OpsT.cons (Does.yi (Yl.load (d := 80) (T := 24) (v := .agg ((([.int .i64 x162, .string x163, .string x164, .bool x165, .int .i64 x166, .slice A168 x167.length cp169] : List Value))).toArray) (by kernel_rfl) (ldBN ty24 (l := (([.int .i64 x162, .string x163, .string x164, .bool x165, .int .i64 x166, .slice A168 x167.length cp169] : List Value))) (o := 0) (cs := (([.int .i64 x162, .string x163, .string x164, .bool x165, .int .i64 x166, .slice A168 x167.length cp169] : List Value))) (ent_refl _) (by kernel_rfl) (whole _ _ (by kernel_rfl)))) hI ?_)
                  obtain ⟨y181, hc180, h1⟩ := bindS h1
                  try dsimp only at h1
                  refine OpsT.cons (Does.call (d := some 81) (n := 17) (vs := [.agg ((([.int .i64 x162, .string x163, .string x164, .bool x165, .int .i64 x166, .slice A168 x167.length cp169] : List Value))).toArray]) (by kernel_rfl) en17 (c17 w0 w _ _ hI (hT.mono (Hp.le_trans hle34 hle59)) x162 x163 x164 x165 x166 A168 cp169 x167 hr170 _ hc180) ?_)
                  rintro e w ⟨rfl, hI⟩
                  refine ⟨_, rfl, ?_⟩
                  refine OpsT.pures (r := []) [2] [0, 1, 2, 7, 8, 10, 82] (S' := [(0, .int .i64 a0), (1, .string a1), (2, .slice A_a2 a2.length c_a2), (7, .bool y2), (8, .pointer (some ⟨b14, 0, none⟩)), (10, .int .i64 x35), (82, .bool (!y181))]) (by kernel_rfl) ?_
                  refine OpsT.done ?_
                  refine Qn.then ?_
                  by_cases hb182 : (!y181) = true
                  · rw [if_pos hb182] at h1
                    refine CodT.yes' (b := !y181) (by kernel_rfl) hb182 ?_
                    refine CodT.seq ?_
                    refine CodT.regionL [0] (by kernel_rfl) ?_
                    refine OpsT.pures (r := []) [0] [6] (S' := [(6, .bool false)]) (by kernel_rfl) ?_
                    refine OpsT.done ?_
                    refine Qn.then ?_
                    refine CodT.ret ?_
                    refine Qn.block_ret ?_
                    refine Qn.ret_then ?_
                    refine Qn.ret_then ?_
                    refine Qn.block_ret ?_
                    refine Qn.ret_then ?_
                    refine Qn.ret_then ?_
                    have hI := hI.drop
                    have e := someS h1
                    subst e
                    try dsimp only at h0
                    have e := someS h0
                    subst e
                    refine Qn.keep [6] (S' := [(6, .bool false)]) (by kernel_rfl) ?_
                    exact post_ret (v := .bool false) (fun a ha => RunRes.run (vs := [.bool false]) (.tmp (t := 6) (by kernel_rfl) .nil) ha (by kernel_rfl)) ⟨rfl, hI.weaken (Hp.le_trans hle34 hle59)⟩
                  · rw [if_neg hb182] at h1
                    refine CodT.no' (b := !y181) (by kernel_rfl) (by simpa using hb182) ?_
                    refine CodT.skip ?_
                    refine Qn.block_normal ?_
                    refine Qn.then ?_
                    refine CodT.regionL [0, 1, 2] (by kernel_rfl) ?_
                    refine OpsT.pures (r := []) [0, 1, 2] [0, 1, 2, 7, 8, 10] (S' := [(0, .int .i64 a0), (1, .string a1), (2, .slice A_a2 a2.length c_a2), (7, .bool y2), (8, .pointer (some ⟨b14, 0, none⟩)), (10, .int .i64 (wi64 (x35 + 1)))]) (by kernel_rfl) ?_
                    refine OpsT.done ?_
                    exact Qn.thenJ fun a ha => ⟨k, Nat.lt_succ_self k, wi64 (x35 + 1), x162, x163, x164, x165, x166, x167, Z58, A168, cp169, h1, ha.keep [0, 1, 2, 7, 8, 10] (by kernel_rfl), hI, (Hp.le_trans hle34 hle59), hr170⟩
          · rw [if_neg hb48] at h1
            refine CodT.no' (b := decide (x35 < (a2.length : Int))) (by kernel_rfl) (by simpa using hb48) ?_
            refine CodT.exit ?_
            refine Qn.exit_then ?_
            refine Qn.exit_then ?_
            refine Qn.block ?_
            have e := someS h1
            subst e
            exact Qn.thenJ fun a ha => ⟨x36, x37, x38, x39, x40, x41, Z33, A42, cp43, rfl, ha.keep [0, 1, 7, 8] (by kernel_rfl), hI, hle34, hr44⟩
        ·
          rintro a w ⟨x24, x25, x26, x27, x28, x29, Z22, A30, cp31, rfl, ha, hI, hle23, hr32⟩
          try dsimp only at h0
          refine Qn.of ?_ ha
          refine Qn.then ?_
          obtain ⟨r1, h1, h0⟩ := bindS h0
          refine CodT.meet (fun a w => ∃ (x183 : Bool), x183 = r1 ∧ Fr 100 [(6, .bool x183)] a ∧ Inv w0 Z22 w A) ?_ ?_
          ·
            refine CodT.regionL [0, 1, 2, 3, 4, 5, 6, 7, 8, 9, 10, 11, 12, 13, 14, 15, 16, 17] (by kernel_rfl) ?_
            refine OpsT.pures (r := [2, 3, 4, 5, 6, 7, 8, 9, 10, 11, 12, 13, 14, 15, 16, 17]) [0, 1] [0, 1, 8, 84] (S' := [(0, .int .i64 a0), (1, .string a1), (8, .pointer (some ⟨b14, 0, none⟩)), (84, .bool y2)]) (by kernel_rfl) ?_
            by_cases hb184 : y2 = true
            · rw [if_pos hb184] at h1
              refine OpsT.keep [0, 1, 8, 84] (S' := [(0, .int .i64 a0), (1, .string a1), (8, .pointer (some ⟨b14, 0, none⟩)), (84, .bool true)]) (by (try simp only [hb184]); kernel_rfl) ?_
              refine OpsT.cons (Does.yi (Yl.load (d := 85) (T := 24) (v := .agg ((([.int .i64 x24, .string x25, .string x26, .bool x27, .int .i64 x28, .slice A30 x29.length cp31] : List Value))).toArray) (by kernel_rfl) (ldBN ty24 (l := (([.int .i64 x24, .string x25, .string x26, .bool x27, .int .i64 x28, .slice A30 x29.length cp31] : List Value))) (o := 0) (cs := (([.int .i64 x24, .string x25, .string x26, .bool x27, .int .i64 x28, .slice A30 x29.length cp31] : List Value))) (ent_refl _) (by kernel_rfl) (whole _ _ (by kernel_rfl)))) hI ?_)
              obtain ⟨y186, hc185, h1⟩ := bindS h1
              try dsimp only at h1
              refine OpsT.cons (Does.call (d := some 86) (n := 17) (vs := [.agg ((([.int .i64 x24, .string x25, .string x26, .bool x27, .int .i64 x28, .slice A30 x29.length cp31] : List Value))).toArray]) (by kernel_rfl) en17 (c17 w0 w _ _ hI (hT.mono hle23) x24 x25 x26 x27 x28 A30 cp31 x29 hr32 _ hc185) ?_)
              rintro e w ⟨rfl, hI⟩
              refine ⟨_, rfl, ?_⟩
              refine OpsT.pures (r := [6, 7, 8, 9, 10, 11, 12, 13, 14, 15, 16, 17]) [4, 5] [0, 1, 8, 88] (S' := [(0, .int .i64 a0), (1, .string a1), (8, .pointer (some ⟨b14, 0, none⟩)), (88, .bool y186)]) (by kernel_rfl) ?_
              by_cases hb187 : y186 = true
              · rw [if_pos hb187] at h1
                refine OpsT.keep [0, 1, 8, 88] (S' := [(0, .int .i64 a0), (1, .string a1), (8, .pointer (some ⟨b14, 0, none⟩)), (88, .bool true)]) (by (try simp only [hb187]); kernel_rfl) ?_
                refine OpsT.pures (r := [7, 8, 9, 10, 11, 12, 13, 14, 15, 16, 17]) [6] [0, 1, 8, 88, 89] (S' := [(0, .int .i64 a0), (1, .string a1), (8, .pointer (some ⟨b14, 0, none⟩)), (88, .bool true), (89, .pointer (some ⟨b14, 0, none⟩))]) (by kernel_rfl) ?_
                refine OpsT.cons (Does.yi (Yl.load (d := 90) (T := 3) (v := .int .i64 x24) (by kernel_rfl) (ldB ty3 (l := (([.int .i64 x24, .string x25, .string x26, .bool x27, .int .i64 x28, .slice A30 x29.length cp31] : List Value))) (o := 0) (v := .int .i64 x24) (ent_refl _) (by kernel_rfl))) hI ?_)
                refine OpsT.pures (r := [12, 13, 14, 15, 16, 17]) [8, 9, 10, 11] [1, 8, 94] (S' := [(1, .string a1), (8, .pointer (some ⟨b14, 0, none⟩)), (94, .bool (x24 == a0))]) (by kernel_rfl) ?_
                by_cases hb188 : (x24 == a0) = true
                · rw [if_pos hb188] at h1
                  refine OpsT.keep [1, 8, 94] (S' := [(1, .string a1), (8, .pointer (some ⟨b14, 0, none⟩)), (94, .bool true)]) (by (try simp only [hb188]); kernel_rfl) ?_
                  refine OpsT.pures (r := [13, 14, 15, 16, 17]) [12] [1, 94, 95] (S' := [(1, .string a1), (94, .bool true), (95, .pointer (some ⟨b14, 1, none⟩))]) (by kernel_rfl) ?_
                  refine OpsT.cons (Does.yi (Yl.load (d := 96) (T := 9) (v := .string x25) (by kernel_rfl) (ldB ty9 (l := (([.int .i64 x24, .string x25, .string x26, .bool x27, .int .i64 x28, .slice A30 x29.length cp31] : List Value))) (o := 1) (v := .string x25) (ent_refl _) (by kernel_rfl))) hI ?_)
                  refine OpsT.pures (r := []) [14, 15, 16, 17] [6] (S' := [(6, .bool (seq x25 a1))]) (by kernel_rfl) ?_
                  refine OpsT.done ?_
                  have hI := hI.drop
                  have e := someS h1
                  subst e
                  exact Qn.thenJ fun a ha => ⟨seq x25 a1, rfl, ha.keep [6] (by kernel_rfl), hI⟩
                · rw [if_neg hb188] at h1
                  have hb188 : (x24 == a0) = false := by simpa using hb188
                  refine OpsT.keep [1, 8, 94] (S' := [(1, .string a1), (8, .pointer (some ⟨b14, 0, none⟩)), (94, .bool false)]) (by (try simp only [hb188]); kernel_rfl) ?_
                  refine OpsT.pures (r := []) [12, 13, 14, 15, 16, 17] [6] (S' := [(6, .bool false)]) (by kernel_rfl) ?_
                  refine OpsT.done ?_
                  have hI := hI.drop
                  have e := someS h1
                  subst e
                  exact Qn.thenJ fun a ha => ⟨false, rfl, ha.keep [6] (by kernel_rfl), hI⟩
              · rw [if_neg hb187] at h1
                have hb187 : y186 = false := by simpa using hb187
                refine OpsT.keep [0, 1, 8, 88] (S' := [(0, .int .i64 a0), (1, .string a1), (8, .pointer (some ⟨b14, 0, none⟩)), (88, .bool false)]) (by (try simp only [hb187]); kernel_rfl) ?_
                refine OpsT.pures (r := []) [6, 7, 8, 9, 10, 11, 12, 13, 14, 15, 16, 17] [6] (S' := [(6, .bool false)]) (by kernel_rfl) ?_
                refine OpsT.done ?_
                have hI := hI.drop
                have e := someS h1
                subst e
                exact Qn.thenJ fun a ha => ⟨false, rfl, ha.keep [6] (by kernel_rfl), hI⟩
            · rw [if_neg hb184] at h1
              have hb184 : y2 = false := by simpa using hb184
              refine OpsT.keep [0, 1, 8, 84] (S' := [(0, .int .i64 a0), (1, .string a1), (8, .pointer (some ⟨b14, 0, none⟩)), (84, .bool false)]) (by (try simp only [hb184]); kernel_rfl) ?_
              refine OpsT.pures (r := []) [2, 3, 4, 5, 6, 7, 8, 9, 10, 11, 12, 13, 14, 15, 16, 17] [6] (S' := [(6, .bool false)]) (by kernel_rfl) ?_
              refine OpsT.done ?_
              have hI := hI.drop
              have e := someS h1
              subst e
              exact Qn.thenJ fun a ha => ⟨false, rfl, ha.keep [6] (by kernel_rfl), hI⟩
          ·
            rintro a w ⟨x183, rfl, ha, hI⟩
            try dsimp only at h0
            refine CodT.of ?_ ha
            refine CodT.ret ?_
            have e := someS h0
            subst e
            refine Qn.keep [6] (S' := [(6, .bool x183)]) (by kernel_rfl) ?_
            exact post_ret (v := .bool x183) (fun a ha => RunRes.run (vs := [.bool x183]) (.tmp (t := 6) (by kernel_rfl) .nil) ha (by kernel_rfl)) ⟨rfl, hI.weaken hle23⟩
end Go.Cen
