/- The walk of the law ShaLinks, printed by a program of ours. -/
import Derived.Test.YthdoklobbcedcaaW1
set_option linter.unusedVariables false
set_option linter.unusedSimpArgs false
namespace Go.Cen
set_option maxRecDepth 100000 in
set_option maxHeartbeats 4000000 in
/-- cenotaph/cenotaphlaw02.ShaLinks -/
theorem c8 (w0 w : World) (Z : Hp) (A : HP) (hI : Inv w0 Z w A) (a0 : (List Int)) (hl_a0 : a0.length = 32) (a1 : ByteArray) (a2 : ByteArray) (r : Bool) (h0 : law02_ShaLinks a0 a1 a2 = some r) :
    Calls prog 8 #[.agg (cA (Value.int .u8) a0).toArray, .string a1, .string a2] w (fun e w' => e = .returned (.bool r) ∧ Inv w0 Z w' A) := by
  refine calls_intro (args := [.agg (cA (Value.int .u8) a0).toArray, .string a1, .string a2]) (fn := Go.Proofs.Try.f8) 48 Go.Proofs.Try.func8 (by rfl) Go.Proofs.Try.ntmps8 (by kernel_rfl) ?_
  unfold law02_ShaLinks at h0
  refine CodT.seq ?_
  refine CodT.regionL [0, 1] (by kernel_rfl) ?_
  refine OpsT.cons (Does.boxL (d := 3) (T := 23) (v := .agg (cA (Value.int .u8) a0).toArray) (cA (Value.int .u8) a0) (by kernel_rfl) hI (by kernel_rfl) ?_)
  intro b1 w hI
  refine OpsT.pures (r := []) [1] [1, 2, 3] (S' := [(1, .string a1), (2, .string a2), (3, .pointer (some ⟨b1, 0, none⟩))]) (by kernel_rfl) ?_
  refine OpsT.done ?_
  refine Qn.then ?_
  refine CodT.seq ?_
  refine CodT.regionL [0, 1] (by kernel_rfl) ?_
  obtain ⟨y3, hc2, h0⟩ := bindS h0
  try dsimp only at h0
  refine OpsT.cons (Does.call (d := some 10) (n := 14) (vs := []) (by kernel_rfl) en14 (c14 w0 w _ _ hI  _ hc2) ?_)
  rintro e w ⟨rfl, hI⟩
  refine ⟨_, rfl, ?_⟩
  refine OpsT.pures (r := []) [1] [1, 2, 3, 7] (S' := [(1, .string a1), (2, .string a2), (3, .pointer (some ⟨b1, 0, none⟩)), (7, .bool y3)]) (by kernel_rfl) ?_
  refine OpsT.done ?_
  refine Qn.then ?_
  refine CodT.seq ?_
  refine CodT.seq ?_
  refine CodT.regionL [0, 1] (by kernel_rfl) ?_
  refine OpsT.pures (r := []) [0, 1] [1, 2, 3, 7, 12] (S' := [(1, .string a1), (2, .string a2), (3, .pointer (some ⟨b1, 0, none⟩)), (7, .bool y3), (12, .bool (!y3))]) (by kernel_rfl) ?_
  refine OpsT.done ?_
  refine Qn.then ?_
  by_cases hb4 : (!y3) = true
  · rw [if_pos hb4] at h0
    refine CodT.yes' (b := !y3) (by kernel_rfl) hb4 ?_
    refine CodT.seq ?_
    refine CodT.regionL [0] (by kernel_rfl) ?_
    refine OpsT.pures (r := []) [0] [6] (S' := [(6, .bool false)]) (by kernel_rfl) ?_
    refine OpsT.done ?_
    refine Qn.then ?_
    refine CodT.ret ?_
    refine Qn.ret_then ?_
    have hI := hI.drop
    have e := someS h0
    subst e
    refine Qn.keep [6] (S' := [(6, .bool false)]) (by kernel_rfl) ?_
    exact post_ret (v := .bool false) (fun a ha => RunRes.run (vs := [.bool false]) (.tmp (t := 6) (by kernel_rfl) .nil) ha (by kernel_rfl)) ⟨rfl, hI⟩
  · rw [if_neg hb4] at h0
    refine CodT.no' (b := !y3) (by kernel_rfl) (by simpa using hb4) ?_
    refine CodT.skip ?_
    refine Qn.then ?_
    refine CodT.seq ?_
    obtain ⟨r1, h1, h0⟩ := bindS h0
    refine CodT.meet (fun a w => ∃ (x5 : Bool), x5 = r1 ∧ Fr 48 [(1, .string a1), (2, .string a2), (3, .pointer (some ⟨b1, 0, none⟩)), (7, .bool y3), (20, .bool x5)] a ∧ Inv w0 Z w (star (pt b1 (.cells (cA (Value.int .u8) a0).toArray 23 (0, 0))) A)) ?_ ?_
    ·
      refine CodT.regionL [0, 1, 2, 3, 4, 5, 6, 7] (by kernel_rfl) ?_
      refine OpsT.pures (r := [4, 5, 6, 7]) [0, 1, 2, 3] [1, 2, 3, 7, 16] (S' := [(1, .string a1), (2, .string a2), (3, .pointer (some ⟨b1, 0, none⟩)), (7, .bool y3), (16, .bool (decide ((a1.size : Int) > 300)))]) (by kernel_rfl) ?_
      by_cases hb6 : (decide ((a1.size : Int) > 300)) = true
      · rw [if_pos hb6] at h1
        refine OpsT.keep [1, 2, 3, 7, 16] (S' := [(1, .string a1), (2, .string a2), (3, .pointer (some ⟨b1, 0, none⟩)), (7, .bool y3), (16, .bool true)]) (by simp only [hb6]; kernel_rfl) ?_
        refine OpsT.pures (r := []) [4, 5, 6, 7] [1, 2, 3, 7, 20] (S' := [(1, .string a1), (2, .string a2), (3, .pointer (some ⟨b1, 0, none⟩)), (7, .bool y3), (20, .bool true)]) (by kernel_rfl) ?_
        refine OpsT.done ?_
        have e := someS h1
        subst e
        exact Qn.thenJ fun a ha => ⟨true, rfl, ha.keep [1, 2, 3, 7, 20] (by kernel_rfl), hI⟩
      · rw [if_neg hb6] at h1
        have hb6 : (decide ((a1.size : Int) > 300)) = false := by simpa using hb6
        refine OpsT.keep [1, 2, 3, 7, 16] (S' := [(1, .string a1), (2, .string a2), (3, .pointer (some ⟨b1, 0, none⟩)), (7, .bool y3), (16, .bool false)]) (by simp only [hb6]; kernel_rfl) ?_
        refine OpsT.pures (r := []) [4, 5, 6, 7] [1, 2, 3, 7, 20] (S' := [(1, .string a1), (2, .string a2), (3, .pointer (some ⟨b1, 0, none⟩)), (7, .bool y3), (20, .bool (decide ((a2.size : Int) > 300)))]) (by kernel_rfl) ?_
        refine OpsT.done ?_
        have e := someS h1
        subst e
        exact Qn.thenJ fun a ha => ⟨decide ((a2.size : Int) > 300), rfl, ha.keep [1, 2, 3, 7, 20] (by kernel_rfl), hI⟩
    ·
      rintro a w ⟨x5, rfl, ha, hI⟩
      try dsimp only at h0
      refine CodT.of ?_ ha
      by_cases hb7 : x5 = true
      · rw [if_pos hb7] at h0
        refine CodT.yes' (b := x5) (by kernel_rfl) hb7 ?_
        refine CodT.seq ?_
        refine CodT.regionL [0, 1] (by kernel_rfl) ?_
        refine OpsT.pures (r := []) [0, 1] [6] (S' := [(6, .bool y3)]) (by kernel_rfl) ?_
        refine OpsT.done ?_
        refine Qn.then ?_
        refine CodT.ret ?_
        refine Qn.ret_then ?_
        have hI := hI.drop
        have e := someS h0
        subst e
        refine Qn.keep [6] (S' := [(6, .bool y3)]) (by kernel_rfl) ?_
        exact post_ret (v := .bool y3) (fun a ha => RunRes.run (vs := [.bool y3]) (.tmp (t := 6) (by kernel_rfl) .nil) ha (by kernel_rfl)) ⟨rfl, hI⟩
      · rw [if_neg hb7] at h0
        refine CodT.no' (b := x5) (by kernel_rfl) (by simpa using hb7) ?_
        refine CodT.skip ?_
        refine Qn.then ?_
        refine CodT.seq ?_
        refine CodT.regionL [0] (by kernel_rfl) ?_
        refine OpsT.pures (r := []) [0] [1, 2, 3, 7, 8] (S' := [(1, .string a1), (2, .string a2), (3, .pointer (some ⟨b1, 0, none⟩)), (7, .bool y3), (8, .string (⟨#[]⟩ : ByteArray))]) (by kernel_rfl) ?_
        refine OpsT.done ?_
        refine Qn.then ?_
        refine CodT.seq ?_
        refine CodT.seq ?_
        refine CodT.regionL [0] (by kernel_rfl) ?_
        refine OpsT.pures (r := []) [0] [1, 2, 3, 7, 8, 9] (S' := [(1, .string a1), (2, .string a2), (3, .pointer (some ⟨b1, 0, none⟩)), (7, .bool y3), (8, .string (⟨#[]⟩ : ByteArray)), (9, .int .i64 0)]) (by kernel_rfl) ?_
        refine OpsT.done ?_
        refine Qn.then ?_
        obtain ⟨r1, h1, h0⟩ := bindS h0
        refine CodT.meet1 (fun a w => ∃ (x8 : ByteArray), x8 = r1 ∧ Fr 48 [(1, .string a1), (2, .string a2), (3, .pointer (some ⟨b1, 0, none⟩)), (7, .bool y3), (8, .string x8)] a ∧ Inv w0 Z w (star (pt b1 (.cells (cA (Value.int .u8) a0).toArray 23 (0, 0))) A)) ?_ ?_
        ·
          refine CodT.block ?_
          refine (fun a ha => wp_loopN (fun k a w => ∃ (x9 : ByteArray) (x10 : Int), law02_ShaLinks.l0 a0 k x9 x10 = some r1 ∧ Fr 48 [(1, .string a1), (2, .string a2), (3, .pointer (some ⟨b1, 0, none⟩)), (7, .bool y3), (8, .string x9), (9, .int .i64 x10)] a ∧ Inv w0 Z w (star (pt b1 (.cells (cA (Value.int .u8) a0).toArray 23 (0, 0))) A)) ?_ FU a w ⟨(⟨#[]⟩ : ByteArray), 0, h1, ha.keep [1, 2, 3, 7, 8, 9] (by kernel_rfl), hI⟩)
          clear h1 hI
          rintro k a w ⟨x9, x10, h1, ha, hI⟩
          rcases k with _ | k
          · cases h1
          simp only [law02_ShaLinks.l0] at h1
          refine CodT.of ?_ ha
          refine CodT.seq ?_
          refine CodT.seq ?_
          refine CodT.regionL [0, 1] (by kernel_rfl) ?_
          refine OpsT.pures (r := []) [0, 1] [1, 2, 3, 7, 8, 9, 23] (S' := [(1, .string a1), (2, .string a2), (3, .pointer (some ⟨b1, 0, none⟩)), (7, .bool y3), (8, .string x9), (9, .int .i64 x10), (23, .bool (decide (x10 < 32)))]) (by kernel_rfl) ?_
          refine OpsT.done ?_
          refine Qn.then ?_
          by_cases hb11 : (decide (x10 < 32)) = true
          · rw [if_pos hb11] at h1
            refine CodT.yes' (b := decide (x10 < 32)) (by kernel_rfl) hb11 ?_
            refine CodT.skip ?_
            refine Qn.then ?_
            refine CodT.seq ?_
            refine CodT.block ?_
            refine CodT.regionL [0, 1, 2, 3, 4, 5, 6, 7] (by kernel_rfl) ?_
            refine OpsT.pures (r := [2, 3, 4, 5, 6, 7]) [0, 1] [1, 2, 3, 7, 9, 26, 27] (S' := [(1, .string a1), (2, .string a2), (3, .pointer (some ⟨b1, 0, none⟩)), (7, .bool y3), (9, .int .i64 x10), (26, .string x9), (27, .int .i64 x10)]) (by kernel_rfl) ?_
            obtain ⟨hg12, h1⟩ := guardS h1
            refine OpsT.cons (Does.yi (Yl.indexArr (d := 28) (T := 23) (k := .i64) (j := x10) (g := b1) (o := 0) (by kernel_rfl) Go.Proofs.Try.underlying23 ty5 hg12.1 hg12.2) hI ?_)
            refine OpsT.cons (Does.yi (Yl.load (d := 29) (T := 5) (v := .int .u8 (gt a0 x10)) (by kernel_rfl) (ldB ty5 (l := cA (Value.int .u8) a0) (o := 0 + x10.toNat * 1) (v := .int .u8 (gt a0 x10)) (ent_refl _) (arr_get _ _ hg12.1 (by have := And.intro hl_a0 hg12.2; omega)))) hI ?_)
            refine OpsT.cons (Does.buildSlice (en := (cI .u8)) (d := 30) (n := 1) (T := 33) (ps := [(0, .int .u8 (gt a0 x10))]) ([gt a0 x10] : List Int) (by kernel_rfl) Go.Proofs.Try.underlying33 ty5 (by kernel_rfl) (by kernel_rfl) (by kernel_rfl) (by kernel_rfl) (len_all (fun _ => rfl)) hI ?_)
            intro b13 w hI
            refine OpsT.cons (Does.b2sOwn (d := 31) (src := 33) (dst := 9) (xs := ([gt a0 x10] : List Int)) (by kernel_rfl) Go.Proofs.Try.underlying33 Go.Proofs.Try.underlying5 Go.Proofs.Try.underlying9 hI ?_)
            obtain ⟨hg14, h1⟩ := guardS h1
            refine OpsT.cons (Does.yi (Yl.cat (d := 32) (T := 9) (x := x9) (y := strOfNums ([gt a0 x10] : List Int)) (by kernel_rfl) hg14) hI ?_)
            refine OpsT.pures (r := []) [7] [1, 2, 3, 7, 8, 9] (S' := [(1, .string a1), (2, .string a2), (3, .pointer (some ⟨b1, 0, none⟩)), (7, .bool y3), (8, .string (x9 ++ (strOfNums ([gt a0 x10] : List Int)))), (9, .int .i64 x10)]) (by kernel_rfl) ?_
            refine OpsT.done ?_
            refine Qn.block_normal ?_
            refine Qn.then ?_
            refine CodT.regionL [0, 1, 2] (by kernel_rfl) ?_
            refine OpsT.pures (r := []) [0, 1, 2] [1, 2, 3, 7, 8, 9] (S' := [(1, .string a1), (2, .string a2), (3, .pointer (some ⟨b1, 0, none⟩)), (7, .bool y3), (8, .string (x9 ++ (strOfNums ([gt a0 x10] : List Int)))), (9, .int .i64 (wi64 (x10 + 1)))]) (by kernel_rfl) ?_
            refine OpsT.done ?_
            have hI := hI.drop
            exact Qn.thenJ fun a ha => ⟨k, Nat.lt_succ_self k, x9 ++ (strOfNums ([gt a0 x10] : List Int)), wi64 (x10 + 1), h1, ha.keep [1, 2, 3, 7, 8, 9] (by kernel_rfl), hI⟩
          · rw [if_neg hb11] at h1
            refine CodT.no' (b := decide (x10 < 32)) (by kernel_rfl) (by simpa using hb11) ?_
            refine CodT.exit ?_
            refine Qn.exit_then ?_
            refine Qn.exit_then ?_
            refine Qn.block ?_
            have e := someS h1
            subst e
            exact Qn.thenJ fun a ha => ⟨x9, rfl, ha.keep [1, 2, 3, 7, 8] (by kernel_rfl), hI⟩
        ·
          rintro a w ⟨x8, rfl, ha, hI⟩
          try dsimp only at h0
          refine Qn.of ?_ ha
          refine Qn.then ?_
          obtain ⟨r1, h1, h0⟩ := bindS h0
          refine CodT.meet (fun a w => ∃ (x15 : Bool), x15 = r1 ∧ Fr 48 [(6, .bool x15)] a ∧ Inv w0 Z w A) ?_ ?_
          ·
            refine CodT.regionL [0, 1, 2, 3, 4, 5, 6, 7, 8, 9, 10, 11, 12, 13, 14, 15] (by kernel_rfl) ?_
            refine OpsT.pures (r := [2, 3, 4, 5, 6, 7, 8, 9, 10, 11, 12, 13, 14, 15]) [0, 1] [1, 2, 3, 8, 34] (S' := [(1, .string a1), (2, .string a2), (3, .pointer (some ⟨b1, 0, none⟩)), (8, .string x8), (34, .bool y3)]) (by kernel_rfl) ?_
            by_cases hb16 : y3 = true
            · rw [if_pos hb16] at h1
              refine OpsT.keep [1, 2, 3, 8, 34] (S' := [(1, .string a1), (2, .string a2), (3, .pointer (some ⟨b1, 0, none⟩)), (8, .string x8), (34, .bool true)]) (by simp only [hb16]; kernel_rfl) ?_
              refine OpsT.cons (Does.yi (Yl.load (d := 35) (T := 23) (v := .agg (cA (Value.int .u8) a0).toArray) (by kernel_rfl) (ldBN ty23 (l := cA (Value.int .u8) a0) (o := 0) (cs := cA (Value.int .u8) a0) (ent_refl _) ((cA_length _ _).trans hl_a0) (whole _ _ ((cA_length _ _).trans hl_a0)))) hI ?_)
              refine OpsT.pures (r := [5, 6, 7, 8, 9, 10, 11, 12, 13, 14, 15]) [3, 4] [1, 2, 8, 34, 35, 36, 37] (S' := [(1, .string a1), (2, .string a2), (8, .string x8), (34, .bool true), (35, .agg (cA (Value.int .u8) a0).toArray), (36, .string a1), (37, .string a2)]) (by kernel_rfl) ?_
              obtain ⟨hg17, h1⟩ := guardS h1
              refine OpsT.cons (Does.yi (Yl.cat (d := 38) (T := 9) (x := a1) (y := a2) (by kernel_rfl) hg17) hI ?_)
              obtain ⟨y19, hc18, h1⟩ := bindS h1
              try dsimp only at h1
              refine OpsT.cons (Does.call (d := some 39) (n := 21) (vs := [.agg (cA (Value.int .u8) a0).toArray, .string (a1 ++ a2)]) (by kernel_rfl) en21 (c21 w0 w _ _ hI a0 hl_a0 (a1 ++ a2) _ hc18) ?_)
              rintro e w ⟨rfl, hl20, hI⟩
              refine ⟨_, rfl, ?_⟩
              refine OpsT.pures (r := [9, 10, 11, 12, 13, 14, 15]) [7, 8] [2, 34, 39, 40, 41] (S' := [(2, .string a2), (34, .bool true), (39, .agg (cA (Value.int .u8) y19).toArray), (40, .string x8), (41, .string a1)]) (by kernel_rfl) ?_
              obtain ⟨hg21, h1⟩ := guardS h1
              refine OpsT.cons (Does.yi (Yl.cat (d := 42) (T := 9) (x := x8) (y := a1) (by kernel_rfl) hg21) hI ?_)
              refine OpsT.pures (r := [11, 12, 13, 14, 15]) [10] [34, 39, 42, 43] (S' := [(34, .bool true), (39, .agg (cA (Value.int .u8) y19).toArray), (42, .string (x8 ++ a1)), (43, .string a2)]) (by kernel_rfl) ?_
              obtain ⟨hg22, h1⟩ := guardS h1
              refine OpsT.cons (Does.yi (Yl.cat (d := 44) (T := 9) (x := x8 ++ a1) (y := a2) (by kernel_rfl) hg22) hI ?_)
              obtain ⟨y24, hc23, h1⟩ := bindS h1
              try dsimp only at h1
              refine OpsT.cons (Does.call (d := some 45) (n := 15) (vs := [.string ((x8 ++ a1) ++ a2)]) (by kernel_rfl) en15 (c15 w0 w _ _ hI ((x8 ++ a1) ++ a2) _ hc23) ?_)
              rintro e w ⟨rfl, hl25, hI⟩
              refine ⟨_, rfl, ?_⟩
              refine OpsT.cons (Does.yi (Yl.eqlA (k := .u8) (d := 46) (T := 23) (xs := y19) (ys := y24) (by kernel_rfl) Go.Proofs.Try.underlying23 (by kernel_rfl) Go.Proofs.Try.underlying5 ty5 hl20 hl25) hI ?_)
              refine OpsT.pures (r := []) [14, 15] [6] (S' := [(6, .bool (eqA y19 y24))]) (by kernel_rfl) ?_
              refine OpsT.done ?_
              have hI := hI.drop
              have e := someS h1
              subst e
              exact Qn.thenJ fun a ha => ⟨eqA y19 y24, rfl, ha.keep [6] (by kernel_rfl), hI⟩
            · rw [if_neg hb16] at h1
              have hb16 : y3 = false := by simpa using hb16
              refine OpsT.keep [1, 2, 3, 8, 34] (S' := [(1, .string a1), (2, .string a2), (3, .pointer (some ⟨b1, 0, none⟩)), (8, .string x8), (34, .bool false)]) (by simp only [hb16]; kernel_rfl) ?_
              refine OpsT.pures (r := []) [2, 3, 4, 5, 6, 7, 8, 9, 10, 11, 12, 13, 14, 15] [6] (S' := [(6, .bool false)]) (by kernel_rfl) ?_
              refine OpsT.done ?_
              have hI := hI.drop
              have e := someS h1
              subst e
              exact Qn.thenJ fun a ha => ⟨false, rfl, ha.keep [6] (by kernel_rfl), hI⟩
          ·
            rintro a w ⟨x15, rfl, ha, hI⟩
            try dsimp only at h0
            refine CodT.of ?_ ha
            refine CodT.ret ?_
            have e := someS h0
            subst e
            refine Qn.keep [6] (S' := [(6, .bool x15)]) (by kernel_rfl) ?_
            exact post_ret (v := .bool x15) (fun a ha => RunRes.run (vs := [.bool x15]) (.tmp (t := 6) (by kernel_rfl) .nil) ha (by kernel_rfl)) ⟨rfl, hI⟩
end Go.Cen
