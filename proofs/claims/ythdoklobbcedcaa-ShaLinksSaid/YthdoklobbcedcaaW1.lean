/- That the machine computes these: walks, printed by a program of ours. -/
import Derived.Test.YthdoklobbcedcaaP
import Derived.Test.YthdoklobbcedcaaW0
set_option linter.unusedVariables false
set_option linter.unusedSimpArgs false
namespace Go.Cen
set_option maxRecDepth 100000 in
set_option maxHeartbeats 4000000 in
/-- cenotaph/cenotaphref02.Of -/
theorem c16 (w0 w : World) (Z : Hp) (A : HP) (hI : Inv w0 Z w A) (a0 : ByteArray) (r : (List Int)) (h0 : ref02_Of a0 = some r) :
    Calls prog 16 #[.string a0] w (fun e w' => e = .returned (.agg (cA (Value.int .u8) r).toArray) ∧ r.length = 32 ∧ Inv w0 Z w' A) := by
  refine calls_intro (args := [.string a0]) (fn := Go.Proofs.Try.f16) 216 Go.Proofs.Try.func16 (by rfl) Go.Proofs.Try.ntmps16 (by kernel_rfl) ?_
  unfold ref02_Of at h0
  refine CodT.seq ?_
  refine CodT.regionL [0] (by kernel_rfl) ?_
  refine OpsT.cons (Does.allocL (d := 2) (T := 23) (cA (Value.int .u8) (List.replicate 32 (0 : Int))) (by kernel_rfl) ty23 hI (by kernel_rfl) ?_)
  intro b1 w hI
  refine OpsT.done ?_
  refine Qn.then ?_
  refine CodT.seq ?_
  refine CodT.regionL [0, 1, 2] (by kernel_rfl) ?_
  obtain ⟨y3, hc2, h0⟩ := bindS h0
  try dsimp only at h0
  refine OpsT.cons (Does.call (d := some 24) (n := 40) (vs := []) (by kernel_rfl) en40 (c40 w0 w _ _ hI  _ hc2) ?_)
  rintro e w ⟨rfl, hl4, hI⟩
  refine ⟨_, rfl, ?_⟩
  refine OpsT.cons (Does.allocL (d := 3) (T := 51) (cA (Value.int .u32) (List.replicate 8 (0 : Int))) (by kernel_rfl) ty51 hI (by kernel_rfl) ?_)
  intro b5 w hI
  refine OpsT.cons (Does.storeAll (T := 51) (b := b5) (n := 8) (xs := (List.replicate 8 (0 : Int))) (ys := y3) (by kernel_rfl) ty51 hI (fun _ => rfl) (by kernel_rfl) hl4 ?_)
  intro w hI
  refine OpsT.done ?_
  refine Qn.then ?_
  refine CodT.seq ?_
  refine CodT.regionL [0, 1, 2] (by kernel_rfl) ?_
  obtain ⟨y7, hc6, h0⟩ := bindS h0
  try dsimp only at h0
  refine OpsT.cons (Does.call (d := some 25) (n := 41) (vs := []) (by kernel_rfl) en41 (c41 w0 w _ _ hI  _ hc6) ?_)
  rintro e w ⟨rfl, hl8, hI⟩
  refine ⟨_, rfl, ?_⟩
  refine OpsT.cons (Does.allocL (d := 4) (T := 52) (cA (Value.int .u32) (List.replicate 64 (0 : Int))) (by kernel_rfl) ty52 hI (by kernel_rfl) ?_)
  intro b9 w hI
  refine OpsT.cons (Does.storeAll (T := 52) (b := b9) (n := 64) (xs := (List.replicate 64 (0 : Int))) (ys := y7) (by kernel_rfl) ty52 hI (fun _ => rfl) (by kernel_rfl) hl8 ?_)
  intro w hI
  refine OpsT.done ?_
  refine Qn.then ?_
  refine CodT.seq ?_
  refine CodT.regionL [0, 1, 2] (by kernel_rfl) ?_
  refine OpsT.pures (r := [1, 2]) [0] [2, 3, 4, 26] (S' := [(2, .pointer (some ⟨b1, 0, none⟩)), (3, .pointer (some ⟨b5, 0, none⟩)), (4, .pointer (some ⟨b9, 0, none⟩)), (26, .string a0)]) (by kernel_rfl) ?_
  obtain ⟨y11, hc10, h0⟩ := bindS h0
  try dsimp only at h0
  refine OpsT.cons (Does.call (d := some 27) (n := 18) (vs := [.string a0]) (by kernel_rfl) en18 (c18 w0 w _ _ hI a0 _ hc10) ?_)
  rintro e w ⟨rfl, hI⟩
  refine ⟨_, rfl, ?_⟩
  refine OpsT.pures (r := []) [2] [2, 3, 4, 5] (S' := [(2, .pointer (some ⟨b1, 0, none⟩)), (3, .pointer (some ⟨b5, 0, none⟩)), (4, .pointer (some ⟨b9, 0, none⟩)), (5, .string y11)]) (by kernel_rfl) ?_
  refine OpsT.done ?_
  refine Qn.then ?_
  refine CodT.seq ?_
  refine CodT.seq ?_
  refine CodT.regionL [0] (by kernel_rfl) ?_
  refine OpsT.pures (r := []) [0] [2, 3, 4, 5, 6] (S' := [(2, .pointer (some ⟨b1, 0, none⟩)), (3, .pointer (some ⟨b5, 0, none⟩)), (4, .pointer (some ⟨b9, 0, none⟩)), (5, .string y11), (6, .int .i64 0)]) (by kernel_rfl) ?_
  refine OpsT.done ?_
  refine Qn.then ?_
  obtain ⟨r1, h1, h0⟩ := bindS h0
  refine CodT.meet1 (fun a w => ∃ (x12 : (List Int)), x12 = r1 ∧ Fr 216 [(2, .pointer (some ⟨b1, 0, none⟩)), (3, .pointer (some ⟨b5, 0, none⟩))] a ∧ Inv w0 Z w (star (pt b5 (.cells (cA (Value.int .u32) x12).toArray 51 (0, 0))) (star (pt b1 (.cells (cA (Value.int .u8) (List.replicate 32 (0 : Int))).toArray 23 (0, 0))) A)) ∧ x12.length = 8) ?_ ?_
  ·
    refine CodT.block ?_
    refine (fun a ha => wp_loopN (fun k a w => ∃ (x14 : Int) (x15 : (List Int)), ref02_Of.l0 y11 y7 k x14 x15 = some r1 ∧ Fr 216 [(2, .pointer (some ⟨b1, 0, none⟩)), (3, .pointer (some ⟨b5, 0, none⟩)), (4, .pointer (some ⟨b9, 0, none⟩)), (5, .string y11), (6, .int .i64 x14)] a ∧ Inv w0 Z w (star (pt b9 (.cells (cA (Value.int .u32) y7).toArray 52 (0, 0))) (star (pt b5 (.cells (cA (Value.int .u32) x15).toArray 51 (0, 0))) (star (pt b1 (.cells (cA (Value.int .u8) (List.replicate 32 (0 : Int))).toArray 23 (0, 0))) A))) ∧ x15.length = 8) ?_ FU a w ⟨0, y3, h1, ha.keep [2, 3, 4, 5, 6] (by kernel_rfl), hI, hl4⟩)
    clear h1 hI
    rintro k a w ⟨x14, x15, h1, ha, hI, hl16⟩
    rcases k with _ | k
    · cases h1
    simp only [ref02_Of.l0] at h1
    refine CodT.of ?_ ha
    refine CodT.seq ?_
    refine CodT.seq ?_
    refine CodT.regionL [0, 1, 2, 3] (by kernel_rfl) ?_
    refine OpsT.pures (r := []) [0, 1, 2, 3] [2, 3, 4, 5, 6, 31] (S' := [(2, .pointer (some ⟨b1, 0, none⟩)), (3, .pointer (some ⟨b5, 0, none⟩)), (4, .pointer (some ⟨b9, 0, none⟩)), (5, .string y11), (6, .int .i64 x14), (31, .bool (decide (x14 < (y11.size : Int))))]) (by kernel_rfl) ?_
    refine OpsT.done ?_
    refine Qn.then ?_
    by_cases hb17 : (decide (x14 < (y11.size : Int))) = true
    · rw [if_pos hb17] at h1
      refine CodT.yes' (b := decide (x14 < (y11.size : Int))) (by kernel_rfl) hb17 ?_
      refine CodT.skip ?_
      refine Qn.then ?_
      refine CodT.seq ?_
      refine CodT.block ?_
      refine CodT.seq ?_
      refine CodT.regionL [0] (by kernel_rfl) ?_
      refine OpsT.cons (Does.allocL (d := 7) (T := 52) (cA (Value.int .u32) (List.replicate 64 (0 : Int))) (by kernel_rfl) ty52 hI (by kernel_rfl) ?_)
      intro b18 w hI
      refine OpsT.done ?_
      refine Qn.then ?_
      refine CodT.seq ?_
      refine CodT.seq ?_
      refine CodT.regionL [0] (by kernel_rfl) ?_
      refine OpsT.pures (r := []) [0] [2, 3, 4, 5, 6, 7, 8] (S' := [(2, .pointer (some ⟨b1, 0, none⟩)), (3, .pointer (some ⟨b5, 0, none⟩)), (4, .pointer (some ⟨b9, 0, none⟩)), (5, .string y11), (6, .int .i64 x14), (7, .pointer (some ⟨b18, 0, none⟩)), (8, .int .i64 0)]) (by kernel_rfl) ?_
      refine OpsT.done ?_
      refine Qn.then ?_
      obtain ⟨r2, h2, h1⟩ := bindS h1
      refine CodT.meet1 (fun a w => ∃ (x19 : (List Int)), x19 = r2 ∧ Fr 216 [(2, .pointer (some ⟨b1, 0, none⟩)), (3, .pointer (some ⟨b5, 0, none⟩)), (4, .pointer (some ⟨b9, 0, none⟩)), (5, .string y11), (6, .int .i64 x14), (7, .pointer (some ⟨b18, 0, none⟩))] a ∧ Inv w0 Z w (star (pt b18 (.cells (cA (Value.int .u32) x19).toArray 52 (0, 0))) (star (pt b9 (.cells (cA (Value.int .u32) y7).toArray 52 (0, 0))) (star (pt b5 (.cells (cA (Value.int .u32) x15).toArray 51 (0, 0))) (star (pt b1 (.cells (cA (Value.int .u8) (List.replicate 32 (0 : Int))).toArray 23 (0, 0))) A)))) ∧ x19.length = 64) ?_ ?_
      ·
        refine CodT.block ?_
        refine (fun a ha => wp_loopN (fun k a w => ∃ (x21 : Int) (x22 : (List Int)), ref02_Of.l1 x14 y11 k x21 x22 = some r2 ∧ Fr 216 [(2, .pointer (some ⟨b1, 0, none⟩)), (3, .pointer (some ⟨b5, 0, none⟩)), (4, .pointer (some ⟨b9, 0, none⟩)), (5, .string y11), (6, .int .i64 x14), (7, .pointer (some ⟨b18, 0, none⟩)), (8, .int .i64 x21)] a ∧ Inv w0 Z w (star (pt b18 (.cells (cA (Value.int .u32) x22).toArray 52 (0, 0))) (star (pt b9 (.cells (cA (Value.int .u32) y7).toArray 52 (0, 0))) (star (pt b5 (.cells (cA (Value.int .u32) x15).toArray 51 (0, 0))) (star (pt b1 (.cells (cA (Value.int .u8) (List.replicate 32 (0 : Int))).toArray 23 (0, 0))) A)))) ∧ x22.length = 64) ?_ FU a w ⟨0, (List.replicate 64 (0 : Int)), h2, ha.keep [2, 3, 4, 5, 6, 7, 8] (by kernel_rfl), hI, (by kernel_rfl)⟩)
        clear h2 hI
        rintro k a w ⟨x21, x22, h2, ha, hI, hl23⟩
        rcases k with _ | k
        · cases h2
        simp only [ref02_Of.l1] at h2
        refine CodT.of ?_ ha
        refine CodT.seq ?_
        refine CodT.seq ?_
        refine CodT.regionL [0, 1] (by kernel_rfl) ?_
        refine OpsT.pures (r := []) [0, 1] [2, 3, 4, 5, 6, 7, 8, 35] (S' := [(2, .pointer (some ⟨b1, 0, none⟩)), (3, .pointer (some ⟨b5, 0, none⟩)), (4, .pointer (some ⟨b9, 0, none⟩)), (5, .string y11), (6, .int .i64 x14), (7, .pointer (some ⟨b18, 0, none⟩)), (8, .int .i64 x21), (35, .bool (decide (x21 < 64)))]) (by kernel_rfl) ?_
        refine OpsT.done ?_
        refine Qn.then ?_
        by_cases hb24 : (decide (x21 < 64)) = true
        · rw [if_pos hb24] at h2
          refine CodT.yes' (b := decide (x21 < 64)) (by kernel_rfl) hb24 ?_
          refine CodT.skip ?_
          refine Qn.then ?_
          obtain ⟨r3, h3, h2⟩ := bindS h2
          refine CodT.meet (fun a w => ∃ (x25 : (List Int)), x25 = r3 ∧ Fr 216 [(2, .pointer (some ⟨b1, 0, none⟩)), (3, .pointer (some ⟨b5, 0, none⟩)), (4, .pointer (some ⟨b9, 0, none⟩)), (5, .string y11), (6, .int .i64 x14), (7, .pointer (some ⟨b18, 0, none⟩)), (8, .int .i64 x21)] a ∧ Inv w0 Z w (star (pt b18 (.cells (cA (Value.int .u32) x25).toArray 52 (0, 0))) (star (pt b9 (.cells (cA (Value.int .u32) y7).toArray 52 (0, 0))) (star (pt b5 (.cells (cA (Value.int .u32) x15).toArray 51 (0, 0))) (star (pt b1 (.cells (cA (Value.int .u8) (List.replicate 32 (0 : Int))).toArray 23 (0, 0))) A)))) ∧ x25.length = 64) ?_ ?_
          ·
            refine CodT.block ?_
            refine CodT.seq ?_
            refine CodT.seq ?_
            refine CodT.regionL [0, 1] (by kernel_rfl) ?_
            refine OpsT.pures (r := []) [0, 1] [2, 3, 4, 5, 6, 7, 8, 39] (S' := [(2, .pointer (some ⟨b1, 0, none⟩)), (3, .pointer (some ⟨b5, 0, none⟩)), (4, .pointer (some ⟨b9, 0, none⟩)), (5, .string y11), (6, .int .i64 x14), (7, .pointer (some ⟨b18, 0, none⟩)), (8, .int .i64 x21), (39, .bool (decide (x21 < 16)))]) (by kernel_rfl) ?_
            refine OpsT.done ?_
            refine Qn.then ?_
            by_cases hb27 : (decide (x21 < 16)) = true
            · rw [if_pos hb27] at h3
              refine CodT.yes' (b := decide (x21 < 16)) (by kernel_rfl) hb27 ?_
              refine CodT.seq ?_
              refine CodT.seq ?_
              refine CodT.regionL [0] (by kernel_rfl) ?_
              refine OpsT.pures (r := []) [0] [2, 3, 4, 5, 6, 7, 8, 9] (S' := [(2, .pointer (some ⟨b1, 0, none⟩)), (3, .pointer (some ⟨b5, 0, none⟩)), (4, .pointer (some ⟨b9, 0, none⟩)), (5, .string y11), (6, .int .i64 x14), (7, .pointer (some ⟨b18, 0, none⟩)), (8, .int .i64 x21), (9, .int .i64 0)]) (by kernel_rfl) ?_
              refine OpsT.done ?_
              refine Qn.then ?_
              obtain ⟨r4, h4, h3⟩ := bindS h3
              refine CodT.meet1 (fun a w => ∃ (x28 : (List Int)), x28 = r4 ∧ Fr 216 [(2, .pointer (some ⟨b1, 0, none⟩)), (3, .pointer (some ⟨b5, 0, none⟩)), (4, .pointer (some ⟨b9, 0, none⟩)), (5, .string y11), (6, .int .i64 x14), (7, .pointer (some ⟨b18, 0, none⟩)), (8, .int .i64 x21)] a ∧ Inv w0 Z w (star (pt b18 (.cells (cA (Value.int .u32) x28).toArray 52 (0, 0))) (star (pt b9 (.cells (cA (Value.int .u32) y7).toArray 52 (0, 0))) (star (pt b5 (.cells (cA (Value.int .u32) x15).toArray 51 (0, 0))) (star (pt b1 (.cells (cA (Value.int .u8) (List.replicate 32 (0 : Int))).toArray 23 (0, 0))) A)))) ∧ x28.length = 64) ?_ ?_
              ·
                refine CodT.block ?_
                refine (fun a ha => wp_loopN (fun k a w => ∃ (x30 : Int) (x31 : (List Int)), ref02_Of.l2 x21 x14 y11 k x30 x31 = some r4 ∧ Fr 216 [(2, .pointer (some ⟨b1, 0, none⟩)), (3, .pointer (some ⟨b5, 0, none⟩)), (4, .pointer (some ⟨b9, 0, none⟩)), (5, .string y11), (6, .int .i64 x14), (7, .pointer (some ⟨b18, 0, none⟩)), (8, .int .i64 x21), (9, .int .i64 x30)] a ∧ Inv w0 Z w (star (pt b18 (.cells (cA (Value.int .u32) x31).toArray 52 (0, 0))) (star (pt b9 (.cells (cA (Value.int .u32) y7).toArray 52 (0, 0))) (star (pt b5 (.cells (cA (Value.int .u32) x15).toArray 51 (0, 0))) (star (pt b1 (.cells (cA (Value.int .u8) (List.replicate 32 (0 : Int))).toArray 23 (0, 0))) A)))) ∧ x31.length = 64) ?_ FU a w ⟨0, x22, h4, ha.keep [2, 3, 4, 5, 6, 7, 8, 9] (by kernel_rfl), hI, hl23⟩)
                clear h4 hI
                rintro k a w ⟨x30, x31, h4, ha, hI, hl32⟩
                rcases k with _ | k
                · cases h4
                simp only [ref02_Of.l2] at h4
                refine CodT.of ?_ ha
                refine CodT.seq ?_
                refine CodT.seq ?_
                refine CodT.regionL [0, 1] (by kernel_rfl) ?_
                refine OpsT.pures (r := []) [0, 1] [2, 3, 4, 5, 6, 7, 8, 9, 41] (S' := [(2, .pointer (some ⟨b1, 0, none⟩)), (3, .pointer (some ⟨b5, 0, none⟩)), (4, .pointer (some ⟨b9, 0, none⟩)), (5, .string y11), (6, .int .i64 x14), (7, .pointer (some ⟨b18, 0, none⟩)), (8, .int .i64 x21), (9, .int .i64 x30), (41, .bool (decide (x30 < 4)))]) (by kernel_rfl) ?_
                refine OpsT.done ?_
                refine Qn.then ?_
                by_cases hb33 : (decide (x30 < 4)) = true
                · rw [if_pos hb33] at h4
                  refine CodT.yes' (b := decide (x30 < 4)) (by kernel_rfl) hb33 ?_
                  refine CodT.skip ?_
                  refine Qn.then ?_
                  refine CodT.seq ?_
                  refine CodT.block ?_
                  refine CodT.drawI (n := 17) [16] (by kernel_rfl) (by kernel_rfl) hI ?_
                  intro w hI
                  refine GmT.p 0 44 (.int .i64 x21) 2 (by kernel_rfl) (by kernel_rfl) hI (by kernel_rfl) ?_
                  refine GmT.p 1 45 (.int .i64 x21) 2 (by kernel_rfl) (by kernel_rfl) hI (by kernel_rfl) ?_
                  refine GmT.p 5 49 (.string y11) 2 (by kernel_rfl) (by kernel_rfl) hI (by kernel_rfl) ?_
                  refine GmT.p 6 50 (.int .i64 x14) 2 (by kernel_rfl) (by kernel_rfl) hI (by kernel_rfl) ?_
                  refine GmT.p 7 51 (.int .i64 x21) 2 (by kernel_rfl) (by kernel_rfl) hI (by kernel_rfl) ?_
                  refine GmT.p 8 52 (.int .i64 (wi64 (4 * x21))) 2 (by kernel_rfl) (by kernel_rfl) hI (by kernel_rfl) ?_
                  refine GmT.p 9 53 (.int .i64 (wi64 (x14 + (wi64 (4 * x21))))) 2 (by kernel_rfl) (by kernel_rfl) hI (by kernel_rfl) ?_
                  refine GmT.p 10 54 (.int .i64 x30) 2 (by kernel_rfl) (by kernel_rfl) hI (by kernel_rfl) ?_
                  refine GmT.p 11 55 (.int .i64 (wi64 ((wi64 (x14 + (wi64 (4 * x21)))) + x30))) 2 (by kernel_rfl) (by kernel_rfl) hI (by kernel_rfl) ?_
                  obtain ⟨hg34, h4⟩ := guardS h4
                  refine GmT.r (i := 2) 2 (by kernel_rfl) (by kernel_rfl) (Yl.indexArr (d := 46) (T := 52) (k := .i64) (j := x21) (g := b18) (o := 0) (by kernel_rfl) Go.Proofs.Try.underlying52 ty50 hg34.1 hg34.2) hI ?_
                  refine GmT.r (i := 3) 2 (by kernel_rfl) (by kernel_rfl) (Yl.load (d := 47) (T := 50) (v := .int .u32 (gt x31 x21)) (by kernel_rfl) (ldB ty50 (l := cA (Value.int .u32) x31) (o := 0 + x21.toNat * 1) (v := .int .u32 (gt x31 x21)) (ent_refl _) (arr_get _ _ hg34.1 (by have := And.intro hl32 hg34.2; omega)))) hI ?_
                  refine GmT.p 4 48 (.int .u32 (wu32 ((gt x31 x21) * 256))) 2 (by kernel_rfl) (by kernel_rfl) hI (by kernel_rfl) ?_
                  obtain ⟨hg35, h4⟩ := guardS h4
                  refine GmT.r (i := 12) 2 (by kernel_rfl) (by kernel_rfl) (Yl.indexStr (d := 56) (T := 9) (k := .i64) (j := wi64 ((wi64 (x14 + (wi64 (4 * x21)))) + x30)) (s := y11) (by kernel_rfl) Go.Proofs.Try.underlying9 hg35.1 hg35.2) hI ?_
                  refine GmT.p 13 57 (.int .u32 (wu32 (bt y11 (wi64 ((wi64 (x14 + (wi64 (4 * x21)))) + x30))))) 2 (by kernel_rfl) (by kernel_rfl) hI (by kernel_rfl) ?_
                  refine GmT.p 14 58 (.int .u32 (wu32 ((wu32 ((gt x31 x21) * 256)) + (wu32 (bt y11 (wi64 ((wi64 (x14 + (wi64 (4 * x21)))) + x30))))))) 2 (by kernel_rfl) (by kernel_rfl) hI (by kernel_rfl) ?_
                  obtain ⟨hg36, h4⟩ := guardS h4
                  refine GmT.r (i := 15) 2 (by kernel_rfl) (by kernel_rfl) (Yl.indexArr (d := 59) (T := 52) (k := .i64) (j := x21) (g := b18) (o := 0) (by kernel_rfl) Go.Proofs.Try.underlying52 ty50 hg36.1 hg36.2) hI ?_
                  refine GmT.o (i := 16) (by kernel_rfl) (Does.storeArr (e := (Value.int .u32)) (xs := x31) (u := wu32 ((wu32 ((gt x31 x21) * 256)) + (wu32 (bt y11 (wi64 ((wi64 (x14 + (wi64 (4 * x21)))) + x30)))))) (T := 50) (b := b18) (j := x21) (by kernel_rfl) ty50 hI (by kernel_rfl) (by kernel_rfl) hg36.1 (by have := And.intro hl32 hg36.2; omega) ?_)
                  intro w hI
                  refine ⟨fun h => absurd h (by decide), ?_⟩
                  refine GmT.done (by kernel_rfl) ?_
                  refine Qn.block_normal ?_
                  refine Qn.then ?_
                  refine CodT.regionL [0, 1, 2] (by kernel_rfl) ?_
                  refine OpsT.pures (r := []) [0, 1, 2] [2, 3, 4, 5, 6, 7, 8, 9] (S' := [(2, .pointer (some ⟨b1, 0, none⟩)), (3, .pointer (some ⟨b5, 0, none⟩)), (4, .pointer (some ⟨b9, 0, none⟩)), (5, .string y11), (6, .int .i64 x14), (7, .pointer (some ⟨b18, 0, none⟩)), (8, .int .i64 x21), (9, .int .i64 (wi64 (x30 + 1)))]) (by kernel_rfl) ?_
                  refine OpsT.done ?_
                  exact Qn.thenJ fun a ha => ⟨k, Nat.lt_succ_self k, wi64 (x30 + 1), st x31 x21 (wu32 ((wu32 ((gt x31 x21) * 256)) + (wu32 (bt y11 (wi64 ((wi64 (x14 + (wi64 (4 * x21)))) + x30)))))), h4, ha.keep [2, 3, 4, 5, 6, 7, 8, 9] (by kernel_rfl), hI, ((st_length _ _ _).trans hl32)⟩
                · rw [if_neg hb33] at h4
                  refine CodT.no' (b := decide (x30 < 4)) (by kernel_rfl) (by simpa using hb33) ?_
                  refine CodT.exit ?_
                  refine Qn.exit_then ?_
                  refine Qn.exit_then ?_
                  refine Qn.block ?_
                  have e := someS h4
                  subst e
                  exact Qn.thenJ fun a ha => ⟨x31, rfl, ha.keep [2, 3, 4, 5, 6, 7, 8] (by kernel_rfl), hI, hl32⟩
              ·
                rintro a w ⟨x28, rfl, ha, hI, hl29⟩
                try dsimp only at h3
                refine Qn.of ?_ ha
                refine Qn.then ?_
                refine CodT.exit ?_
                refine Qn.exit_then ?_
                refine Qn.block ?_
                have e := someS h3
                subst e
                exact Qn.thenJ fun a ha => ⟨x28, rfl, ha.keep [2, 3, 4, 5, 6, 7, 8] (by kernel_rfl), hI, hl29⟩
            · rw [if_neg hb27] at h3
              refine CodT.no' (b := decide (x21 < 16)) (by kernel_rfl) (by simpa using hb27) ?_
              refine CodT.skip ?_
              refine Qn.then ?_
              refine CodT.seq ?_
              refine CodT.regionL [0, 1, 2, 3, 4] (by kernel_rfl) ?_
              refine OpsT.pures (r := [2, 3, 4]) [0, 1] [2, 3, 4, 5, 6, 7, 8, 61] (S' := [(2, .pointer (some ⟨b1, 0, none⟩)), (3, .pointer (some ⟨b5, 0, none⟩)), (4, .pointer (some ⟨b9, 0, none⟩)), (5, .string y11), (6, .int .i64 x14), (7, .pointer (some ⟨b18, 0, none⟩)), (8, .int .i64 x21), (61, .int .i64 (wi64 (x21 - 15)))]) (by kernel_rfl) ?_
              obtain ⟨hg37, h3⟩ := guardS h3
              refine OpsT.cons (Does.yi (Yl.indexArr (d := 62) (T := 52) (k := .i64) (j := wi64 (x21 - 15)) (g := b18) (o := 0) (by kernel_rfl) Go.Proofs.Try.underlying52 ty50 hg37.1 hg37.2) hI ?_)
              refine OpsT.cons (Does.yi (Yl.load (d := 63) (T := 50) (v := .int .u32 (gt x22 (wi64 (x21 - 15)))) (by kernel_rfl) (ldB ty50 (l := cA (Value.int .u32) x22) (o := 0 + (wi64 (x21 - 15)).toNat * 1) (v := .int .u32 (gt x22 (wi64 (x21 - 15)))) (ent_refl _) (arr_get _ _ hg37.1 (by have := And.intro hl23 hg37.2; omega)))) hI ?_)
              refine OpsT.pures (r := []) [4] [2, 3, 4, 5, 6, 7, 8, 10] (S' := [(2, .pointer (some ⟨b1, 0, none⟩)), (3, .pointer (some ⟨b5, 0, none⟩)), (4, .pointer (some ⟨b9, 0, none⟩)), (5, .string y11), (6, .int .i64 x14), (7, .pointer (some ⟨b18, 0, none⟩)), (8, .int .i64 x21), (10, .int .u32 (gt x22 (wi64 (x21 - 15))))]) (by kernel_rfl) ?_
              refine OpsT.done ?_
              refine Qn.then ?_
              refine CodT.seq ?_
              refine CodT.regionL [0, 1, 2, 3, 4] (by kernel_rfl) ?_
              refine OpsT.pures (r := [2, 3, 4]) [0, 1] [2, 3, 4, 5, 6, 7, 8, 10, 65] (S' := [(2, .pointer (some ⟨b1, 0, none⟩)), (3, .pointer (some ⟨b5, 0, none⟩)), (4, .pointer (some ⟨b9, 0, none⟩)), (5, .string y11), (6, .int .i64 x14), (7, .pointer (some ⟨b18, 0, none⟩)), (8, .int .i64 x21), (10, .int .u32 (gt x22 (wi64 (x21 - 15)))), (65, .int .i64 (wi64 (x21 - 2)))]) (by kernel_rfl) ?_
              obtain ⟨hg38, h3⟩ := guardS h3
              refine OpsT.cons (Does.yi (Yl.indexArr (d := 66) (T := 52) (k := .i64) (j := wi64 (x21 - 2)) (g := b18) (o := 0) (by kernel_rfl) Go.Proofs.Try.underlying52 ty50 hg38.1 hg38.2) hI ?_)
              refine OpsT.cons (Does.yi (Yl.load (d := 67) (T := 50) (v := .int .u32 (gt x22 (wi64 (x21 - 2)))) (by kernel_rfl) (ldB ty50 (l := cA (Value.int .u32) x22) (o := 0 + (wi64 (x21 - 2)).toNat * 1) (v := .int .u32 (gt x22 (wi64 (x21 - 2)))) (ent_refl _) (arr_get _ _ hg38.1 (by have := And.intro hl23 hg38.2; omega)))) hI ?_)
              refine OpsT.pures (r := []) [4] [2, 3, 4, 5, 6, 7, 8, 10, 11] (S' := [(2, .pointer (some ⟨b1, 0, none⟩)), (3, .pointer (some ⟨b5, 0, none⟩)), (4, .pointer (some ⟨b9, 0, none⟩)), (5, .string y11), (6, .int .i64 x14), (7, .pointer (some ⟨b18, 0, none⟩)), (8, .int .i64 x21), (10, .int .u32 (gt x22 (wi64 (x21 - 15)))), (11, .int .u32 (gt x22 (wi64 (x21 - 2))))]) (by kernel_rfl) ?_
              refine OpsT.done ?_
              refine Qn.then ?_
              refine CodT.drawI (n := 30) [29] (by kernel_rfl) (by kernel_rfl) hI ?_
              intro w hI
              refine GmT.p 0 68 (.int .i64 x21) 2 (by kernel_rfl) (by kernel_rfl) hI (by kernel_rfl) ?_
              refine GmT.p 1 69 (.int .u32 (gt x22 (wi64 (x21 - 2)))) 2 (by kernel_rfl) (by kernel_rfl) hI (by kernel_rfl) ?_
              refine GmT.p 3 71 (.int .u32 (gt x22 (wi64 (x21 - 2)))) 2 (by kernel_rfl) (by kernel_rfl) hI (by kernel_rfl) ?_
              refine GmT.p 6 74 (.int .u32 (gt x22 (wi64 (x21 - 2)))) 2 (by kernel_rfl) (by kernel_rfl) hI (by kernel_rfl) ?_
              refine GmT.p 9 77 (.int .i64 x21) 2 (by kernel_rfl) (by kernel_rfl) hI (by kernel_rfl) ?_
              refine GmT.p 10 78 (.int .i64 (wi64 (x21 - 7))) 2 (by kernel_rfl) (by kernel_rfl) hI (by kernel_rfl) ?_
              refine GmT.p 14 82 (.int .u32 (gt x22 (wi64 (x21 - 15)))) 2 (by kernel_rfl) (by kernel_rfl) hI (by kernel_rfl) ?_
              refine GmT.p 16 84 (.int .u32 (gt x22 (wi64 (x21 - 15)))) 2 (by kernel_rfl) (by kernel_rfl) hI (by kernel_rfl) ?_
              refine GmT.p 19 87 (.int .u32 (gt x22 (wi64 (x21 - 15)))) 2 (by kernel_rfl) (by kernel_rfl) hI (by kernel_rfl) ?_
              refine GmT.p 23 91 (.int .i64 x21) 2 (by kernel_rfl) (by kernel_rfl) hI (by kernel_rfl) ?_
              refine GmT.p 24 92 (.int .i64 (wi64 (x21 - 16))) 2 (by kernel_rfl) (by kernel_rfl) hI (by kernel_rfl) ?_
              obtain ⟨hg39, h3⟩ := guardS h3
              refine GmT.r (i := 11) 2 (by kernel_rfl) (by kernel_rfl) (Yl.indexArr (d := 79) (T := 52) (k := .i64) (j := wi64 (x21 - 7)) (g := b18) (o := 0) (by kernel_rfl) Go.Proofs.Try.underlying52 ty50 hg39.1 hg39.2) hI ?_
              refine GmT.r (i := 12) 2 (by kernel_rfl) (by kernel_rfl) (Yl.load (d := 80) (T := 50) (v := .int .u32 (gt x22 (wi64 (x21 - 7)))) (by kernel_rfl) (ldB ty50 (l := cA (Value.int .u32) x22) (o := 0 + (wi64 (x21 - 7)).toNat * 1) (v := .int .u32 (gt x22 (wi64 (x21 - 7)))) (ent_refl _) (arr_get _ _ hg39.1 (by have := And.intro hl23 hg39.2; omega)))) hI ?_
              obtain ⟨hg40, h3⟩ := guardS h3
              refine GmT.r (i := 25) 2 (by kernel_rfl) (by kernel_rfl) (Yl.indexArr (d := 93) (T := 52) (k := .i64) (j := wi64 (x21 - 16)) (g := b18) (o := 0) (by kernel_rfl) Go.Proofs.Try.underlying52 ty50 hg40.1 hg40.2) hI ?_
              refine GmT.r (i := 26) 2 (by kernel_rfl) (by kernel_rfl) (Yl.load (d := 94) (T := 50) (v := .int .u32 (gt x22 (wi64 (x21 - 16)))) (by kernel_rfl) (ldB ty50 (l := cA (Value.int .u32) x22) (o := 0 + (wi64 (x21 - 16)).toNat * 1) (v := .int .u32 (gt x22 (wi64 (x21 - 16)))) (ent_refl _) (arr_get _ _ hg40.1 (by have := And.intro hl23 hg40.2; omega)))) hI ?_
              obtain ⟨y42, hc41, h3⟩ := bindS h3
              try dsimp only at h3
              refine GmT.o (i := 2) (by kernel_rfl) (Does.call (d := some 70) (n := 42) (vs := [.int .u32 (gt x22 (wi64 (x21 - 2))), .int .i64 17]) (by kernel_rfl) en42 (c42 w0 w _ _ hI (gt x22 (wi64 (x21 - 2))) 17 _ hc41) ?_)
              rintro e w ⟨rfl, hI⟩
              refine ⟨_, rfl, ?_⟩
              refine ⟨fun _ => hI, ?_⟩
              obtain ⟨y44, hc43, h3⟩ := bindS h3
              try dsimp only at h3
              refine GmT.o (i := 4) (by kernel_rfl) (Does.call (d := some 72) (n := 42) (vs := [.int .u32 (gt x22 (wi64 (x21 - 2))), .int .i64 19]) (by kernel_rfl) en42 (c42 w0 w _ _ hI (gt x22 (wi64 (x21 - 2))) 19 _ hc43) ?_)
              rintro e w ⟨rfl, hI⟩
              refine ⟨_, rfl, ?_⟩
              refine ⟨fun _ => hI, ?_⟩
              refine GmT.p 5 73 (.int .u32 (bXor .u32 y42 y44)) 2 (by kernel_rfl) (by kernel_rfl) hI (by kernel_rfl) ?_
              obtain ⟨y46, hc45, h3⟩ := bindS h3
              try dsimp only at h3
              refine GmT.o (i := 7) (by kernel_rfl) (Does.call (d := some 75) (n := 43) (vs := [.int .u32 (gt x22 (wi64 (x21 - 2))), .int .i64 10]) (by kernel_rfl) en43 (c43 w0 w _ _ hI (gt x22 (wi64 (x21 - 2))) 10 _ hc45) ?_)
              rintro e w ⟨rfl, hI⟩
              refine ⟨_, rfl, ?_⟩
              refine ⟨fun _ => hI, ?_⟩
              refine GmT.p 8 76 (.int .u32 (bXor .u32 (bXor .u32 y42 y44) y46)) 2 (by kernel_rfl) (by kernel_rfl) hI (by kernel_rfl) ?_
              refine GmT.p 13 81 (.int .u32 (wu32 ((bXor .u32 (bXor .u32 y42 y44) y46) + (gt x22 (wi64 (x21 - 7)))))) 2 (by kernel_rfl) (by kernel_rfl) hI (by kernel_rfl) ?_
              obtain ⟨y48, hc47, h3⟩ := bindS h3
              try dsimp only at h3
              refine GmT.o (i := 15) (by kernel_rfl) (Does.call (d := some 83) (n := 42) (vs := [.int .u32 (gt x22 (wi64 (x21 - 15))), .int .i64 7]) (by kernel_rfl) en42 (c42 w0 w _ _ hI (gt x22 (wi64 (x21 - 15))) 7 _ hc47) ?_)
              rintro e w ⟨rfl, hI⟩
              refine ⟨_, rfl, ?_⟩
              refine ⟨fun _ => hI, ?_⟩
              obtain ⟨y50, hc49, h3⟩ := bindS h3
              try dsimp only at h3
              refine GmT.o (i := 17) (by kernel_rfl) (Does.call (d := some 85) (n := 42) (vs := [.int .u32 (gt x22 (wi64 (x21 - 15))), .int .i64 18]) (by kernel_rfl) en42 (c42 w0 w _ _ hI (gt x22 (wi64 (x21 - 15))) 18 _ hc49) ?_)
              rintro e w ⟨rfl, hI⟩
              refine ⟨_, rfl, ?_⟩
              refine ⟨fun _ => hI, ?_⟩
              refine GmT.p 18 86 (.int .u32 (bXor .u32 y48 y50)) 2 (by kernel_rfl) (by kernel_rfl) hI (by kernel_rfl) ?_
              obtain ⟨y52, hc51, h3⟩ := bindS h3
              try dsimp only at h3
              refine GmT.o (i := 20) (by kernel_rfl) (Does.call (d := some 88) (n := 43) (vs := [.int .u32 (gt x22 (wi64 (x21 - 15))), .int .i64 3]) (by kernel_rfl) en43 (c43 w0 w _ _ hI (gt x22 (wi64 (x21 - 15))) 3 _ hc51) ?_)
              rintro e w ⟨rfl, hI⟩
              refine ⟨_, rfl, ?_⟩
              refine ⟨fun _ => hI, ?_⟩
              refine GmT.p 21 89 (.int .u32 (bXor .u32 (bXor .u32 y48 y50) y52)) 2 (by kernel_rfl) (by kernel_rfl) hI (by kernel_rfl) ?_
              refine GmT.p 22 90 (.int .u32 (wu32 ((wu32 ((bXor .u32 (bXor .u32 y42 y44) y46) + (gt x22 (wi64 (x21 - 7))))) + (bXor .u32 (bXor .u32 y48 y50) y52)))) 2 (by kernel_rfl) (by kernel_rfl) hI (by kernel_rfl) ?_
              refine GmT.p 27 95 (.int .u32 (wu32 ((wu32 ((wu32 ((bXor .u32 (bXor .u32 y42 y44) y46) + (gt x22 (wi64 (x21 - 7))))) + (bXor .u32 (bXor .u32 y48 y50) y52))) + (gt x22 (wi64 (x21 - 16)))))) 2 (by kernel_rfl) (by kernel_rfl) hI (by kernel_rfl) ?_
              obtain ⟨hg53, h3⟩ := guardS h3
              refine GmT.r (i := 28) 2 (by kernel_rfl) (by kernel_rfl) (Yl.indexArr (d := 96) (T := 52) (k := .i64) (j := x21) (g := b18) (o := 0) (by kernel_rfl) Go.Proofs.Try.underlying52 ty50 hg53.1 hg53.2) hI ?_
              refine GmT.o (i := 29) (by kernel_rfl) (Does.storeArr (e := (Value.int .u32)) (xs := x22) (u := wu32 ((wu32 ((wu32 ((bXor .u32 (bXor .u32 y42 y44) y46) + (gt x22 (wi64 (x21 - 7))))) + (bXor .u32 (bXor .u32 y48 y50) y52))) + (gt x22 (wi64 (x21 - 16))))) (T := 50) (b := b18) (j := x21) (by kernel_rfl) ty50 hI (by kernel_rfl) (by kernel_rfl) hg53.1 (by have := And.intro hl23 hg53.2; omega) ?_)
              intro w hI
              refine ⟨fun h => absurd h (by decide), ?_⟩
              refine GmT.done (by kernel_rfl) ?_
              refine Qn.block_normal ?_
              have e := someS h3
              subst e
              exact Qn.thenJ fun a ha => ⟨st x22 x21 (wu32 ((wu32 ((wu32 ((bXor .u32 (bXor .u32 y42 y44) y46) + (gt x22 (wi64 (x21 - 7))))) + (bXor .u32 (bXor .u32 y48 y50) y52))) + (gt x22 (wi64 (x21 - 16))))), rfl, ha.keep [2, 3, 4, 5, 6, 7, 8] (by kernel_rfl), hI, ((st_length _ _ _).trans hl23)⟩
          ·
            rintro a w ⟨x25, rfl, ha, hI, hl26⟩
            try dsimp only at h2
            refine CodT.of ?_ ha
            refine CodT.regionL [0, 1, 2] (by kernel_rfl) ?_
            refine OpsT.pures (r := []) [0, 1, 2] [2, 3, 4, 5, 6, 7, 8] (S' := [(2, .pointer (some ⟨b1, 0, none⟩)), (3, .pointer (some ⟨b5, 0, none⟩)), (4, .pointer (some ⟨b9, 0, none⟩)), (5, .string y11), (6, .int .i64 x14), (7, .pointer (some ⟨b18, 0, none⟩)), (8, .int .i64 (wi64 (x21 + 1)))]) (by kernel_rfl) ?_
            refine OpsT.done ?_
            exact Qn.thenJ fun a ha => ⟨k, Nat.lt_succ_self k, wi64 (x21 + 1), x25, h2, ha.keep [2, 3, 4, 5, 6, 7, 8] (by kernel_rfl), hI, hl26⟩
        · rw [if_neg hb24] at h2
          refine CodT.no' (b := decide (x21 < 64)) (by kernel_rfl) (by simpa using hb24) ?_
          refine CodT.exit ?_
          refine Qn.exit_then ?_
          refine Qn.exit_then ?_
          refine Qn.block ?_
          have e := someS h2
          subst e
          exact Qn.thenJ fun a ha => ⟨x22, rfl, ha.keep [2, 3, 4, 5, 6, 7] (by kernel_rfl), hI, hl23⟩
      ·
        rintro a w ⟨x19, rfl, ha, hI, hl20⟩
        try dsimp only at h1
        refine Qn.of ?_ ha
        refine Qn.then ?_
        refine CodT.seq ?_
        refine CodT.regionL [0, 1, 2] (by kernel_rfl) ?_
        refine OpsT.cons (Does.yi (Yl.load (d := 97) (T := 51) (v := .agg (cA (Value.int .u32) x15).toArray) (by kernel_rfl) (ldBN ty51 (l := cA (Value.int .u32) x15) (o := 0) (cs := cA (Value.int .u32) x15) (pick3 _ _ _ _) ((cA_length _ _).trans hl16) (whole _ _ ((cA_length _ _).trans hl16)))) hI ?_)
        refine OpsT.cons (Does.allocL (d := 12) (T := 51) (cA (Value.int .u32) (List.replicate 8 (0 : Int))) (by kernel_rfl) ty51 hI (by kernel_rfl) ?_)
        intro b54 w hI
        refine OpsT.cons (Does.storeAll (T := 51) (b := b54) (n := 8) (xs := (List.replicate 8 (0 : Int))) (ys := x15) (by kernel_rfl) ty51 hI (fun _ => rfl) (by kernel_rfl) hl16 ?_)
        intro w hI
        refine OpsT.done ?_
        refine Qn.then ?_
        refine CodT.seq ?_
        refine CodT.seq ?_
        refine CodT.regionL [0] (by kernel_rfl) ?_
        refine OpsT.pures (r := []) [0] [2, 3, 4, 5, 6, 7, 12, 13] (S' := [(2, .pointer (some ⟨b1, 0, none⟩)), (3, .pointer (some ⟨b5, 0, none⟩)), (4, .pointer (some ⟨b9, 0, none⟩)), (5, .string y11), (6, .int .i64 x14), (7, .pointer (some ⟨b18, 0, none⟩)), (12, .pointer (some ⟨b54, 0, none⟩)), (13, .int .i64 0)]) (by kernel_rfl) ?_
        refine OpsT.done ?_
        refine Qn.then ?_
        obtain ⟨r2, h2, h1⟩ := bindS h1
        refine CodT.meet1 (fun a w => ∃ (x55 : (List Int)), x55 = r2 ∧ Fr 216 [(2, .pointer (some ⟨b1, 0, none⟩)), (3, .pointer (some ⟨b5, 0, none⟩)), (4, .pointer (some ⟨b9, 0, none⟩)), (5, .string y11), (6, .int .i64 x14), (12, .pointer (some ⟨b54, 0, none⟩))] a ∧ Inv w0 Z w (star (pt b54 (.cells (cA (Value.int .u32) x55).toArray 51 (0, 0))) (star (pt b9 (.cells (cA (Value.int .u32) y7).toArray 52 (0, 0))) (star (pt b5 (.cells (cA (Value.int .u32) x15).toArray 51 (0, 0))) (star (pt b1 (.cells (cA (Value.int .u8) (List.replicate 32 (0 : Int))).toArray 23 (0, 0))) A)))) ∧ x55.length = 8) ?_ ?_
        ·
          refine CodT.block ?_
          refine (fun a ha => wp_loopN (fun k a w => ∃ (x57 : Int) (x58 : (List Int)), ref02_Of.l3 y7 x19 k x57 x58 = some r2 ∧ Fr 216 [(2, .pointer (some ⟨b1, 0, none⟩)), (3, .pointer (some ⟨b5, 0, none⟩)), (4, .pointer (some ⟨b9, 0, none⟩)), (5, .string y11), (6, .int .i64 x14), (7, .pointer (some ⟨b18, 0, none⟩)), (12, .pointer (some ⟨b54, 0, none⟩)), (13, .int .i64 x57)] a ∧ Inv w0 Z w (star (pt b54 (.cells (cA (Value.int .u32) x58).toArray 51 (0, 0))) (star (pt b18 (.cells (cA (Value.int .u32) x19).toArray 52 (0, 0))) (star (pt b9 (.cells (cA (Value.int .u32) y7).toArray 52 (0, 0))) (star (pt b5 (.cells (cA (Value.int .u32) x15).toArray 51 (0, 0))) (star (pt b1 (.cells (cA (Value.int .u8) (List.replicate 32 (0 : Int))).toArray 23 (0, 0))) A))))) ∧ x58.length = 8) ?_ FU a w ⟨0, x15, h2, ha.keep [2, 3, 4, 5, 6, 7, 12, 13] (by kernel_rfl), hI, hl16⟩)
          clear h2 hI
          rintro k a w ⟨x57, x58, h2, ha, hI, hl59⟩
          rcases k with _ | k
          · cases h2
          simp only [ref02_Of.l3] at h2
          refine CodT.of ?_ ha
          refine CodT.seq ?_
          refine CodT.seq ?_
          refine CodT.regionL [0, 1] (by kernel_rfl) ?_
          refine OpsT.pures (r := []) [0, 1] [2, 3, 4, 5, 6, 7, 12, 13, 99] (S' := [(2, .pointer (some ⟨b1, 0, none⟩)), (3, .pointer (some ⟨b5, 0, none⟩)), (4, .pointer (some ⟨b9, 0, none⟩)), (5, .string y11), (6, .int .i64 x14), (7, .pointer (some ⟨b18, 0, none⟩)), (12, .pointer (some ⟨b54, 0, none⟩)), (13, .int .i64 x57), (99, .bool (decide (x57 < 64)))]) (by kernel_rfl) ?_
          refine OpsT.done ?_
          refine Qn.then ?_
          by_cases hb60 : (decide (x57 < 64)) = true
          · rw [if_pos hb60] at h2
            refine CodT.yes' (b := decide (x57 < 64)) (by kernel_rfl) hb60 ?_
            refine CodT.skip ?_
            refine Qn.then ?_
            refine CodT.seq ?_
            refine CodT.block ?_
            refine CodT.seq ?_
            refine CodT.regionL [0, 1, 2] (by kernel_rfl) ?_
            refine OpsT.pures (r := [1, 2]) [0] [2, 3, 4, 5, 6, 7, 12, 13, 102] (S' := [(2, .pointer (some ⟨b1, 0, none⟩)), (3, .pointer (some ⟨b5, 0, none⟩)), (4, .pointer (some ⟨b9, 0, none⟩)), (5, .string y11), (6, .int .i64 x14), (7, .pointer (some ⟨b18, 0, none⟩)), (12, .pointer (some ⟨b54, 0, none⟩)), (13, .int .i64 x57), (102, .pointer (some ⟨b54, 4, none⟩))]) (by kernel_rfl) ?_
            refine OpsT.cons (Does.yi (Yl.load (d := 103) (T := 50) (v := .int .u32 (gt x58 4)) (by kernel_rfl) (ldB ty50 (l := cA (Value.int .u32) x58) (o := 4) (v := .int .u32 (gt x58 4)) (ent_refl _) (arr_getC _ _ 4 hl59 (by kernel_rfl)))) hI ?_)
            refine OpsT.pures (r := []) [2] [2, 3, 4, 5, 6, 7, 12, 13, 14] (S' := [(2, .pointer (some ⟨b1, 0, none⟩)), (3, .pointer (some ⟨b5, 0, none⟩)), (4, .pointer (some ⟨b9, 0, none⟩)), (5, .string y11), (6, .int .i64 x14), (7, .pointer (some ⟨b18, 0, none⟩)), (12, .pointer (some ⟨b54, 0, none⟩)), (13, .int .i64 x57), (14, .int .u32 (gt x58 4))]) (by kernel_rfl) ?_
            refine OpsT.done ?_
            refine Qn.then ?_
            refine CodT.seq ?_
            refine CodT.regionL [0, 1, 2] (by kernel_rfl) ?_
            refine OpsT.pures (r := [1, 2]) [0] [2, 3, 4, 5, 6, 7, 12, 13, 14, 104] (S' := [(2, .pointer (some ⟨b1, 0, none⟩)), (3, .pointer (some ⟨b5, 0, none⟩)), (4, .pointer (some ⟨b9, 0, none⟩)), (5, .string y11), (6, .int .i64 x14), (7, .pointer (some ⟨b18, 0, none⟩)), (12, .pointer (some ⟨b54, 0, none⟩)), (13, .int .i64 x57), (14, .int .u32 (gt x58 4)), (104, .pointer (some ⟨b54, 0, none⟩))]) (by kernel_rfl) ?_
            refine OpsT.cons (Does.yi (Yl.load (d := 105) (T := 50) (v := .int .u32 (gt x58 0)) (by kernel_rfl) (ldB ty50 (l := cA (Value.int .u32) x58) (o := 0) (v := .int .u32 (gt x58 0)) (ent_refl _) (arr_getC _ _ 0 hl59 (by kernel_rfl)))) hI ?_)
            refine OpsT.pures (r := []) [2] [2, 3, 4, 5, 6, 7, 12, 13, 14, 15] (S' := [(2, .pointer (some ⟨b1, 0, none⟩)), (3, .pointer (some ⟨b5, 0, none⟩)), (4, .pointer (some ⟨b9, 0, none⟩)), (5, .string y11), (6, .int .i64 x14), (7, .pointer (some ⟨b18, 0, none⟩)), (12, .pointer (some ⟨b54, 0, none⟩)), (13, .int .i64 x57), (14, .int .u32 (gt x58 4)), (15, .int .u32 (gt x58 0))]) (by kernel_rfl) ?_
            refine OpsT.done ?_
            refine Qn.then ?_
            refine CodT.seq ?_
            refine CodT.regionL [0, 1, 2] (by kernel_rfl) ?_
            refine OpsT.pures (r := []) [0, 1, 2] [2, 3, 4, 5, 6, 7, 12, 13, 14, 15, 16] (S' := [(2, .pointer (some ⟨b1, 0, none⟩)), (3, .pointer (some ⟨b5, 0, none⟩)), (4, .pointer (some ⟨b9, 0, none⟩)), (5, .string y11), (6, .int .i64 x14), (7, .pointer (some ⟨b18, 0, none⟩)), (12, .pointer (some ⟨b54, 0, none⟩)), (13, .int .i64 x57), (14, .int .u32 (gt x58 4)), (15, .int .u32 (gt x58 0)), (16, .int .u32 (wu32 (4294967295 - (gt x58 4))))]) (by kernel_rfl) ?_
            refine OpsT.done ?_
            refine Qn.then ?_
            refine CodT.seq ?_
            refine CodT.drawI (n := 30) [] (by kernel_rfl) (by kernel_rfl) hI ?_
            intro w hI
            refine GmT.p 0 108 (.pointer (some ⟨b54, 7, none⟩)) 2 (by kernel_rfl) (by kernel_rfl) hI (by kernel_rfl) ?_
            refine GmT.p 2 110 (.int .u32 (gt x58 4)) 2 (by kernel_rfl) (by kernel_rfl) hI (by kernel_rfl) ?_
            refine GmT.p 4 112 (.int .u32 (gt x58 4)) 2 (by kernel_rfl) (by kernel_rfl) hI (by kernel_rfl) ?_
            refine GmT.p 7 115 (.int .u32 (gt x58 4)) 2 (by kernel_rfl) (by kernel_rfl) hI (by kernel_rfl) ?_
            refine GmT.p 11 119 (.int .u32 (gt x58 4)) 2 (by kernel_rfl) (by kernel_rfl) hI (by kernel_rfl) ?_
            refine GmT.p 12 120 (.pointer (some ⟨b54, 5, none⟩)) 2 (by kernel_rfl) (by kernel_rfl) hI (by kernel_rfl) ?_
            refine GmT.p 15 123 (.int .u32 (wu32 (4294967295 - (gt x58 4)))) 2 (by kernel_rfl) (by kernel_rfl) hI (by kernel_rfl) ?_
            refine GmT.p 16 124 (.pointer (some ⟨b54, 6, none⟩)) 2 (by kernel_rfl) (by kernel_rfl) hI (by kernel_rfl) ?_
            refine GmT.p 21 129 (.int .i64 x57) 2 (by kernel_rfl) (by kernel_rfl) hI (by kernel_rfl) ?_
            refine GmT.p 25 133 (.int .i64 x57) 2 (by kernel_rfl) (by kernel_rfl) hI (by kernel_rfl) ?_
            refine GmT.r (i := 1) 2 (by kernel_rfl) (by kernel_rfl) (Yl.load (d := 109) (T := 50) (v := .int .u32 (gt x58 7)) (by kernel_rfl) (ldB ty50 (l := cA (Value.int .u32) x58) (o := 7) (v := .int .u32 (gt x58 7)) (ent_refl _) (arr_getC _ _ 7 hl59 (by kernel_rfl)))) hI ?_
            refine GmT.r (i := 13) 2 (by kernel_rfl) (by kernel_rfl) (Yl.load (d := 121) (T := 50) (v := .int .u32 (gt x58 5)) (by kernel_rfl) (ldB ty50 (l := cA (Value.int .u32) x58) (o := 5) (v := .int .u32 (gt x58 5)) (ent_refl _) (arr_getC _ _ 5 hl59 (by kernel_rfl)))) hI ?_
            refine GmT.p 14 122 (.int .u32 (bAnd .u32 (gt x58 4) (gt x58 5))) 2 (by kernel_rfl) (by kernel_rfl) hI (by kernel_rfl) ?_
            refine GmT.r (i := 17) 2 (by kernel_rfl) (by kernel_rfl) (Yl.load (d := 125) (T := 50) (v := .int .u32 (gt x58 6)) (by kernel_rfl) (ldB ty50 (l := cA (Value.int .u32) x58) (o := 6) (v := .int .u32 (gt x58 6)) (ent_refl _) (arr_getC _ _ 6 hl59 (by kernel_rfl)))) hI ?_
            refine GmT.p 18 126 (.int .u32 (bAnd .u32 (wu32 (4294967295 - (gt x58 4))) (gt x58 6))) 2 (by kernel_rfl) (by kernel_rfl) hI (by kernel_rfl) ?_
            refine GmT.p 19 127 (.int .u32 (bXor .u32 (bAnd .u32 (gt x58 4) (gt x58 5)) (bAnd .u32 (wu32 (4294967295 - (gt x58 4))) (gt x58 6)))) 2 (by kernel_rfl) (by kernel_rfl) hI (by kernel_rfl) ?_
            obtain ⟨hg61, h2⟩ := guardS h2
            refine GmT.r (i := 22) 2 (by kernel_rfl) (by kernel_rfl) (Yl.indexArr (d := 130) (T := 52) (k := .i64) (j := x57) (g := b9) (o := 0) (by kernel_rfl) Go.Proofs.Try.underlying52 ty50 hg61.1 hg61.2) hI ?_
            refine GmT.r (i := 23) 2 (by kernel_rfl) (by kernel_rfl) (Yl.load (d := 131) (T := 50) (v := .int .u32 (gt y7 x57)) (by kernel_rfl) (ldB ty50 (l := cA (Value.int .u32) y7) (o := 0 + x57.toNat * 1) (v := .int .u32 (gt y7 x57)) (pick3 _ _ _ _) (arr_get _ _ hg61.1 (by have := And.intro hl8 hg61.2; omega)))) hI ?_
            obtain ⟨hg62, h2⟩ := guardS h2
            refine GmT.r (i := 26) 2 (by kernel_rfl) (by kernel_rfl) (Yl.indexArr (d := 134) (T := 52) (k := .i64) (j := x57) (g := b18) (o := 0) (by kernel_rfl) Go.Proofs.Try.underlying52 ty50 hg62.1 hg62.2) hI ?_
            refine GmT.r (i := 27) 2 (by kernel_rfl) (by kernel_rfl) (Yl.load (d := 135) (T := 50) (v := .int .u32 (gt x19 x57)) (by kernel_rfl) (ldB ty50 (l := cA (Value.int .u32) x19) (o := 0 + x57.toNat * 1) (v := .int .u32 (gt x19 x57)) (pick2 _ _ _) (arr_get _ _ hg62.1 (by have := And.intro hl20 hg62.2; omega)))) hI ?_
            obtain ⟨y64, hc63, h2⟩ := bindS h2
            try dsimp only at h2
            refine GmT.o (i := 3) (by kernel_rfl) (Does.call (d := some 111) (n := 42) (vs := [.int .u32 (gt x58 4), .int .i64 6]) (by kernel_rfl) en42 (c42 w0 w _ _ hI (gt x58 4) 6 _ hc63) ?_)
            rintro e w ⟨rfl, hI⟩
            refine ⟨_, rfl, ?_⟩
            refine ⟨fun _ => hI, ?_⟩
            obtain ⟨y66, hc65, h2⟩ := bindS h2
            try dsimp only at h2
            refine GmT.o (i := 5) (by kernel_rfl) (Does.call (d := some 113) (n := 42) (vs := [.int .u32 (gt x58 4), .int .i64 11]) (by kernel_rfl) en42 (c42 w0 w _ _ hI (gt x58 4) 11 _ hc65) ?_)
            rintro e w ⟨rfl, hI⟩
            refine ⟨_, rfl, ?_⟩
            refine ⟨fun _ => hI, ?_⟩
            refine GmT.p 6 114 (.int .u32 (bXor .u32 y64 y66)) 2 (by kernel_rfl) (by kernel_rfl) hI (by kernel_rfl) ?_
            obtain ⟨y68, hc67, h2⟩ := bindS h2
            try dsimp only at h2
            refine GmT.o (i := 8) (by kernel_rfl) (Does.call (d := some 116) (n := 42) (vs := [.int .u32 (gt x58 4), .int .i64 25]) (by kernel_rfl) en42 (c42 w0 w _ _ hI (gt x58 4) 25 _ hc67) ?_)
            rintro e w ⟨rfl, hI⟩
            refine ⟨_, rfl, ?_⟩
            refine ⟨fun _ => hI, ?_⟩
            refine GmT.p 9 117 (.int .u32 (bXor .u32 (bXor .u32 y64 y66) y68)) 2 (by kernel_rfl) (by kernel_rfl) hI (by kernel_rfl) ?_
            refine GmT.p 10 118 (.int .u32 (wu32 ((gt x58 7) + (bXor .u32 (bXor .u32 y64 y66) y68)))) 2 (by kernel_rfl) (by kernel_rfl) hI (by kernel_rfl) ?_
            refine GmT.p 20 128 (.int .u32 (wu32 ((wu32 ((gt x58 7) + (bXor .u32 (bXor .u32 y64 y66) y68))) + (bXor .u32 (bAnd .u32 (gt x58 4) (gt x58 5)) (bAnd .u32 (wu32 (4294967295 - (gt x58 4))) (gt x58 6)))))) 2 (by kernel_rfl) (by kernel_rfl) hI (by kernel_rfl) ?_
            refine GmT.p 24 132 (.int .u32 (wu32 ((wu32 ((wu32 ((gt x58 7) + (bXor .u32 (bXor .u32 y64 y66) y68))) + (bXor .u32 (bAnd .u32 (gt x58 4) (gt x58 5)) (bAnd .u32 (wu32 (4294967295 - (gt x58 4))) (gt x58 6))))) + (gt y7 x57)))) 2 (by kernel_rfl) (by kernel_rfl) hI (by kernel_rfl) ?_
            refine GmT.p 28 136 (.int .u32 (wu32 ((wu32 ((wu32 ((wu32 ((gt x58 7) + (bXor .u32 (bXor .u32 y64 y66) y68))) + (bXor .u32 (bAnd .u32 (gt x58 4) (gt x58 5)) (bAnd .u32 (wu32 (4294967295 - (gt x58 4))) (gt x58 6))))) + (gt y7 x57))) + (gt x19 x57)))) 2 (by kernel_rfl) (by kernel_rfl) hI (by kernel_rfl) ?_
            refine GmT.p 29 17 (.int .u32 (wu32 ((wu32 ((wu32 ((wu32 ((gt x58 7) + (bXor .u32 (bXor .u32 y64 y66) y68))) + (bXor .u32 (bAnd .u32 (gt x58 4) (gt x58 5)) (bAnd .u32 (wu32 (4294967295 - (gt x58 4))) (gt x58 6))))) + (gt y7 x57))) + (gt x19 x57)))) 2 (by kernel_rfl) (by kernel_rfl) hI (by kernel_rfl) ?_
            refine GmT.done (by kernel_rfl) ?_
            refine Qn.then ?_
            refine CodT.seq ?_
            refine CodT.drawI (n := 25) [] (by kernel_rfl) (by kernel_rfl) hI ?_
            intro w hI
            refine GmT.p 0 137 (.int .u32 (gt x58 0)) 2 (by kernel_rfl) (by kernel_rfl) hI (by kernel_rfl) ?_
            refine GmT.p 2 139 (.int .u32 (gt x58 0)) 2 (by kernel_rfl) (by kernel_rfl) hI (by kernel_rfl) ?_
            refine GmT.p 5 142 (.int .u32 (gt x58 0)) 2 (by kernel_rfl) (by kernel_rfl) hI (by kernel_rfl) ?_
            refine GmT.p 8 145 (.int .u32 (gt x58 0)) 2 (by kernel_rfl) (by kernel_rfl) hI (by kernel_rfl) ?_
            refine GmT.p 9 146 (.pointer (some ⟨b54, 1, none⟩)) 2 (by kernel_rfl) (by kernel_rfl) hI (by kernel_rfl) ?_
            refine GmT.p 12 149 (.int .u32 (gt x58 0)) 2 (by kernel_rfl) (by kernel_rfl) hI (by kernel_rfl) ?_
            refine GmT.p 13 150 (.pointer (some ⟨b54, 2, none⟩)) 2 (by kernel_rfl) (by kernel_rfl) hI (by kernel_rfl) ?_
            refine GmT.p 17 154 (.pointer (some ⟨b54, 1, none⟩)) 2 (by kernel_rfl) (by kernel_rfl) hI (by kernel_rfl) ?_
            refine GmT.p 19 156 (.pointer (some ⟨b54, 2, none⟩)) 2 (by kernel_rfl) (by kernel_rfl) hI (by kernel_rfl) ?_
            refine GmT.r (i := 10) 2 (by kernel_rfl) (by kernel_rfl) (Yl.load (d := 147) (T := 50) (v := .int .u32 (gt x58 1)) (by kernel_rfl) (ldB ty50 (l := cA (Value.int .u32) x58) (o := 1) (v := .int .u32 (gt x58 1)) (ent_refl _) (arr_getC _ _ 1 hl59 (by kernel_rfl)))) hI ?_
            refine GmT.p 11 148 (.int .u32 (bAnd .u32 (gt x58 0) (gt x58 1))) 2 (by kernel_rfl) (by kernel_rfl) hI (by kernel_rfl) ?_
            refine GmT.r (i := 14) 2 (by kernel_rfl) (by kernel_rfl) (Yl.load (d := 151) (T := 50) (v := .int .u32 (gt x58 2)) (by kernel_rfl) (ldB ty50 (l := cA (Value.int .u32) x58) (o := 2) (v := .int .u32 (gt x58 2)) (ent_refl _) (arr_getC _ _ 2 hl59 (by kernel_rfl)))) hI ?_
            refine GmT.p 15 152 (.int .u32 (bAnd .u32 (gt x58 0) (gt x58 2))) 2 (by kernel_rfl) (by kernel_rfl) hI (by kernel_rfl) ?_
            refine GmT.p 16 153 (.int .u32 (bXor .u32 (bAnd .u32 (gt x58 0) (gt x58 1)) (bAnd .u32 (gt x58 0) (gt x58 2)))) 2 (by kernel_rfl) (by kernel_rfl) hI (by kernel_rfl) ?_
            refine GmT.r (i := 18) 2 (by kernel_rfl) (by kernel_rfl) (Yl.load (d := 155) (T := 50) (v := .int .u32 (gt x58 1)) (by kernel_rfl) (ldB ty50 (l := cA (Value.int .u32) x58) (o := 1) (v := .int .u32 (gt x58 1)) (ent_refl _) (arr_getC _ _ 1 hl59 (by kernel_rfl)))) hI ?_
            refine GmT.r (i := 20) 2 (by kernel_rfl) (by kernel_rfl) (Yl.load (d := 157) (T := 50) (v := .int .u32 (gt x58 2)) (by kernel_rfl) (ldB ty50 (l := cA (Value.int .u32) x58) (o := 2) (v := .int .u32 (gt x58 2)) (ent_refl _) (arr_getC _ _ 2 hl59 (by kernel_rfl)))) hI ?_
            refine GmT.p 21 158 (.int .u32 (bAnd .u32 (gt x58 1) (gt x58 2))) 2 (by kernel_rfl) (by kernel_rfl) hI (by kernel_rfl) ?_
            refine GmT.p 22 159 (.int .u32 (bXor .u32 (bXor .u32 (bAnd .u32 (gt x58 0) (gt x58 1)) (bAnd .u32 (gt x58 0) (gt x58 2))) (bAnd .u32 (gt x58 1) (gt x58 2)))) 2 (by kernel_rfl) (by kernel_rfl) hI (by kernel_rfl) ?_
            obtain ⟨y70, hc69, h2⟩ := bindS h2
            try dsimp only at h2
            refine GmT.o (i := 1) (by kernel_rfl) (Does.call (d := some 138) (n := 42) (vs := [.int .u32 (gt x58 0), .int .i64 2]) (by kernel_rfl) en42 (c42 w0 w _ _ hI (gt x58 0) 2 _ hc69) ?_)
            rintro e w ⟨rfl, hI⟩
            refine ⟨_, rfl, ?_⟩
            refine ⟨fun _ => hI, ?_⟩
            obtain ⟨y72, hc71, h2⟩ := bindS h2
            try dsimp only at h2
            refine GmT.o (i := 3) (by kernel_rfl) (Does.call (d := some 140) (n := 42) (vs := [.int .u32 (gt x58 0), .int .i64 13]) (by kernel_rfl) en42 (c42 w0 w _ _ hI (gt x58 0) 13 _ hc71) ?_)
            rintro e w ⟨rfl, hI⟩
            refine ⟨_, rfl, ?_⟩
            refine ⟨fun _ => hI, ?_⟩
            refine GmT.p 4 141 (.int .u32 (bXor .u32 y70 y72)) 2 (by kernel_rfl) (by kernel_rfl) hI (by kernel_rfl) ?_
            obtain ⟨y74, hc73, h2⟩ := bindS h2
            try dsimp only at h2
            refine GmT.o (i := 6) (by kernel_rfl) (Does.call (d := some 143) (n := 42) (vs := [.int .u32 (gt x58 0), .int .i64 22]) (by kernel_rfl) en42 (c42 w0 w _ _ hI (gt x58 0) 22 _ hc73) ?_)
            rintro e w ⟨rfl, hI⟩
            refine ⟨_, rfl, ?_⟩
            refine ⟨fun _ => hI, ?_⟩
            refine GmT.p 7 144 (.int .u32 (bXor .u32 (bXor .u32 y70 y72) y74)) 2 (by kernel_rfl) (by kernel_rfl) hI (by kernel_rfl) ?_
            refine GmT.p 23 160 (.int .u32 (wu32 ((bXor .u32 (bXor .u32 y70 y72) y74) + (bXor .u32 (bXor .u32 (bAnd .u32 (gt x58 0) (gt x58 1)) (bAnd .u32 (gt x58 0) (gt x58 2))) (bAnd .u32 (gt x58 1) (gt x58 2)))))) 2 (by kernel_rfl) (by kernel_rfl) hI (by kernel_rfl) ?_
            refine GmT.p 24 18 (.int .u32 (wu32 ((bXor .u32 (bXor .u32 y70 y72) y74) + (bXor .u32 (bXor .u32 (bAnd .u32 (gt x58 0) (gt x58 1)) (bAnd .u32 (gt x58 0) (gt x58 2))) (bAnd .u32 (gt x58 1) (gt x58 2)))))) 2 (by kernel_rfl) (by kernel_rfl) hI (by kernel_rfl) ?_
            refine GmT.done (by kernel_rfl) ?_
            refine Qn.then ?_
            refine CodT.regionL [0, 1, 2, 3, 4, 5, 6, 7, 8, 9, 10, 11, 12, 13, 14, 15, 16, 17, 18, 19, 20] (by kernel_rfl) ?_
            refine OpsT.pures (r := [4, 5, 6, 7, 8, 9, 10, 11, 12, 13, 14, 15, 16, 17, 18, 19, 20]) [0, 1, 2, 3] [2, 3, 4, 5, 6, 7, 12, 13, 17, 163, 164] (S' := [(2, .pointer (some ⟨b1, 0, none⟩)), (3, .pointer (some ⟨b5, 0, none⟩)), (4, .pointer (some ⟨b9, 0, none⟩)), (5, .string y11), (6, .int .i64 x14), (7, .pointer (some ⟨b18, 0, none⟩)), (12, .pointer (some ⟨b54, 0, none⟩)), (13, .int .i64 x57), (17, .int .u32 (wu32 ((wu32 ((wu32 ((wu32 ((gt x58 7) + (bXor .u32 (bXor .u32 y64 y66) y68))) + (bXor .u32 (bAnd .u32 (gt x58 4) (gt x58 5)) (bAnd .u32 (wu32 (4294967295 - (gt x58 4))) (gt x58 6))))) + (gt y7 x57))) + (gt x19 x57)))), (163, .int .u32 (wu32 ((wu32 ((wu32 ((wu32 ((wu32 ((gt x58 7) + (bXor .u32 (bXor .u32 y64 y66) y68))) + (bXor .u32 (bAnd .u32 (gt x58 4) (gt x58 5)) (bAnd .u32 (wu32 (4294967295 - (gt x58 4))) (gt x58 6))))) + (gt y7 x57))) + (gt x19 x57))) + (wu32 ((bXor .u32 (bXor .u32 y70 y72) y74) + (bXor .u32 (bXor .u32 (bAnd .u32 (gt x58 0) (gt x58 1)) (bAnd .u32 (gt x58 0) (gt x58 2))) (bAnd .u32 (gt x58 1) (gt x58 2)))))))), (164, .pointer (some ⟨b54, 0, none⟩))]) (by kernel_rfl) ?_
            refine OpsT.cons (Does.yi (Yl.load (d := 165) (T := 50) (v := .int .u32 (gt x58 0)) (by kernel_rfl) (ldB ty50 (l := cA (Value.int .u32) x58) (o := 0) (v := .int .u32 (gt x58 0)) (ent_refl _) (arr_getC _ _ 0 hl59 (by kernel_rfl)))) hI ?_)
            refine OpsT.pures (r := [6, 7, 8, 9, 10, 11, 12, 13, 14, 15, 16, 17, 18, 19, 20]) [5] [2, 3, 4, 5, 6, 7, 12, 13, 17, 163, 165, 166] (S' := [(2, .pointer (some ⟨b1, 0, none⟩)), (3, .pointer (some ⟨b5, 0, none⟩)), (4, .pointer (some ⟨b9, 0, none⟩)), (5, .string y11), (6, .int .i64 x14), (7, .pointer (some ⟨b18, 0, none⟩)), (12, .pointer (some ⟨b54, 0, none⟩)), (13, .int .i64 x57), (17, .int .u32 (wu32 ((wu32 ((wu32 ((wu32 ((gt x58 7) + (bXor .u32 (bXor .u32 y64 y66) y68))) + (bXor .u32 (bAnd .u32 (gt x58 4) (gt x58 5)) (bAnd .u32 (wu32 (4294967295 - (gt x58 4))) (gt x58 6))))) + (gt y7 x57))) + (gt x19 x57)))), (163, .int .u32 (wu32 ((wu32 ((wu32 ((wu32 ((wu32 ((gt x58 7) + (bXor .u32 (bXor .u32 y64 y66) y68))) + (bXor .u32 (bAnd .u32 (gt x58 4) (gt x58 5)) (bAnd .u32 (wu32 (4294967295 - (gt x58 4))) (gt x58 6))))) + (gt y7 x57))) + (gt x19 x57))) + (wu32 ((bXor .u32 (bXor .u32 y70 y72) y74) + (bXor .u32 (bXor .u32 (bAnd .u32 (gt x58 0) (gt x58 1)) (bAnd .u32 (gt x58 0) (gt x58 2))) (bAnd .u32 (gt x58 1) (gt x58 2)))))))), (165, .int .u32 (gt x58 0)), (166, .pointer (some ⟨b54, 1, none⟩))]) (by kernel_rfl) ?_
            refine OpsT.cons (Does.yi (Yl.load (d := 167) (T := 50) (v := .int .u32 (gt x58 1)) (by kernel_rfl) (ldB ty50 (l := cA (Value.int .u32) x58) (o := 1) (v := .int .u32 (gt x58 1)) (ent_refl _) (arr_getC _ _ 1 hl59 (by kernel_rfl)))) hI ?_)
            refine OpsT.pures (r := [8, 9, 10, 11, 12, 13, 14, 15, 16, 17, 18, 19, 20]) [7] [2, 3, 4, 5, 6, 7, 12, 13, 17, 163, 165, 167, 168] (S' := [(2, .pointer (some ⟨b1, 0, none⟩)), (3, .pointer (some ⟨b5, 0, none⟩)), (4, .pointer (some ⟨b9, 0, none⟩)), (5, .string y11), (6, .int .i64 x14), (7, .pointer (some ⟨b18, 0, none⟩)), (12, .pointer (some ⟨b54, 0, none⟩)), (13, .int .i64 x57), (17, .int .u32 (wu32 ((wu32 ((wu32 ((wu32 ((gt x58 7) + (bXor .u32 (bXor .u32 y64 y66) y68))) + (bXor .u32 (bAnd .u32 (gt x58 4) (gt x58 5)) (bAnd .u32 (wu32 (4294967295 - (gt x58 4))) (gt x58 6))))) + (gt y7 x57))) + (gt x19 x57)))), (163, .int .u32 (wu32 ((wu32 ((wu32 ((wu32 ((wu32 ((gt x58 7) + (bXor .u32 (bXor .u32 y64 y66) y68))) + (bXor .u32 (bAnd .u32 (gt x58 4) (gt x58 5)) (bAnd .u32 (wu32 (4294967295 - (gt x58 4))) (gt x58 6))))) + (gt y7 x57))) + (gt x19 x57))) + (wu32 ((bXor .u32 (bXor .u32 y70 y72) y74) + (bXor .u32 (bXor .u32 (bAnd .u32 (gt x58 0) (gt x58 1)) (bAnd .u32 (gt x58 0) (gt x58 2))) (bAnd .u32 (gt x58 1) (gt x58 2)))))))), (165, .int .u32 (gt x58 0)), (167, .int .u32 (gt x58 1)), (168, .pointer (some ⟨b54, 2, none⟩))]) (by kernel_rfl) ?_
            refine OpsT.cons (Does.yi (Yl.load (d := 169) (T := 50) (v := .int .u32 (gt x58 2)) (by kernel_rfl) (ldB ty50 (l := cA (Value.int .u32) x58) (o := 2) (v := .int .u32 (gt x58 2)) (ent_refl _) (arr_getC _ _ 2 hl59 (by kernel_rfl)))) hI ?_)
            refine OpsT.pures (r := [10, 11, 12, 13, 14, 15, 16, 17, 18, 19, 20]) [9] [2, 3, 4, 5, 6, 7, 12, 13, 17, 163, 165, 167, 169, 170] (S' := [(2, .pointer (some ⟨b1, 0, none⟩)), (3, .pointer (some ⟨b5, 0, none⟩)), (4, .pointer (some ⟨b9, 0, none⟩)), (5, .string y11), (6, .int .i64 x14), (7, .pointer (some ⟨b18, 0, none⟩)), (12, .pointer (some ⟨b54, 0, none⟩)), (13, .int .i64 x57), (17, .int .u32 (wu32 ((wu32 ((wu32 ((wu32 ((gt x58 7) + (bXor .u32 (bXor .u32 y64 y66) y68))) + (bXor .u32 (bAnd .u32 (gt x58 4) (gt x58 5)) (bAnd .u32 (wu32 (4294967295 - (gt x58 4))) (gt x58 6))))) + (gt y7 x57))) + (gt x19 x57)))), (163, .int .u32 (wu32 ((wu32 ((wu32 ((wu32 ((wu32 ((gt x58 7) + (bXor .u32 (bXor .u32 y64 y66) y68))) + (bXor .u32 (bAnd .u32 (gt x58 4) (gt x58 5)) (bAnd .u32 (wu32 (4294967295 - (gt x58 4))) (gt x58 6))))) + (gt y7 x57))) + (gt x19 x57))) + (wu32 ((bXor .u32 (bXor .u32 y70 y72) y74) + (bXor .u32 (bXor .u32 (bAnd .u32 (gt x58 0) (gt x58 1)) (bAnd .u32 (gt x58 0) (gt x58 2))) (bAnd .u32 (gt x58 1) (gt x58 2)))))))), (165, .int .u32 (gt x58 0)), (167, .int .u32 (gt x58 1)), (169, .int .u32 (gt x58 2)), (170, .pointer (some ⟨b54, 3, none⟩))]) (by kernel_rfl) ?_
            refine OpsT.cons (Does.yi (Yl.load (d := 171) (T := 50) (v := .int .u32 (gt x58 3)) (by kernel_rfl) (ldB ty50 (l := cA (Value.int .u32) x58) (o := 3) (v := .int .u32 (gt x58 3)) (ent_refl _) (arr_getC _ _ 3 hl59 (by kernel_rfl)))) hI ?_)
            refine OpsT.pures (r := [14, 15, 16, 17, 18, 19, 20]) [11, 12, 13] [2, 3, 4, 5, 6, 7, 12, 13, 163, 165, 167, 169, 173, 174] (S' := [(2, .pointer (some ⟨b1, 0, none⟩)), (3, .pointer (some ⟨b5, 0, none⟩)), (4, .pointer (some ⟨b9, 0, none⟩)), (5, .string y11), (6, .int .i64 x14), (7, .pointer (some ⟨b18, 0, none⟩)), (12, .pointer (some ⟨b54, 0, none⟩)), (13, .int .i64 x57), (163, .int .u32 (wu32 ((wu32 ((wu32 ((wu32 ((wu32 ((gt x58 7) + (bXor .u32 (bXor .u32 y64 y66) y68))) + (bXor .u32 (bAnd .u32 (gt x58 4) (gt x58 5)) (bAnd .u32 (wu32 (4294967295 - (gt x58 4))) (gt x58 6))))) + (gt y7 x57))) + (gt x19 x57))) + (wu32 ((bXor .u32 (bXor .u32 y70 y72) y74) + (bXor .u32 (bXor .u32 (bAnd .u32 (gt x58 0) (gt x58 1)) (bAnd .u32 (gt x58 0) (gt x58 2))) (bAnd .u32 (gt x58 1) (gt x58 2)))))))), (165, .int .u32 (gt x58 0)), (167, .int .u32 (gt x58 1)), (169, .int .u32 (gt x58 2)), (173, .int .u32 (wu32 ((gt x58 3) + (wu32 ((wu32 ((wu32 ((wu32 ((gt x58 7) + (bXor .u32 (bXor .u32 y64 y66) y68))) + (bXor .u32 (bAnd .u32 (gt x58 4) (gt x58 5)) (bAnd .u32 (wu32 (4294967295 - (gt x58 4))) (gt x58 6))))) + (gt y7 x57))) + (gt x19 x57)))))), (174, .pointer (some ⟨b54, 4, none⟩))]) (by kernel_rfl) ?_
            refine OpsT.cons (Does.yi (Yl.load (d := 175) (T := 50) (v := .int .u32 (gt x58 4)) (by kernel_rfl) (ldB ty50 (l := cA (Value.int .u32) x58) (o := 4) (v := .int .u32 (gt x58 4)) (ent_refl _) (arr_getC _ _ 4 hl59 (by kernel_rfl)))) hI ?_)
            refine OpsT.pures (r := [16, 17, 18, 19, 20]) [15] [2, 3, 4, 5, 6, 7, 12, 13, 163, 165, 167, 169, 173, 175, 176] (S' := [(2, .pointer (some ⟨b1, 0, none⟩)), (3, .pointer (some ⟨b5, 0, none⟩)), (4, .pointer (some ⟨b9, 0, none⟩)), (5, .string y11), (6, .int .i64 x14), (7, .pointer (some ⟨b18, 0, none⟩)), (12, .pointer (some ⟨b54, 0, none⟩)), (13, .int .i64 x57), (163, .int .u32 (wu32 ((wu32 ((wu32 ((wu32 ((wu32 ((gt x58 7) + (bXor .u32 (bXor .u32 y64 y66) y68))) + (bXor .u32 (bAnd .u32 (gt x58 4) (gt x58 5)) (bAnd .u32 (wu32 (4294967295 - (gt x58 4))) (gt x58 6))))) + (gt y7 x57))) + (gt x19 x57))) + (wu32 ((bXor .u32 (bXor .u32 y70 y72) y74) + (bXor .u32 (bXor .u32 (bAnd .u32 (gt x58 0) (gt x58 1)) (bAnd .u32 (gt x58 0) (gt x58 2))) (bAnd .u32 (gt x58 1) (gt x58 2)))))))), (165, .int .u32 (gt x58 0)), (167, .int .u32 (gt x58 1)), (169, .int .u32 (gt x58 2)), (173, .int .u32 (wu32 ((gt x58 3) + (wu32 ((wu32 ((wu32 ((wu32 ((gt x58 7) + (bXor .u32 (bXor .u32 y64 y66) y68))) + (bXor .u32 (bAnd .u32 (gt x58 4) (gt x58 5)) (bAnd .u32 (wu32 (4294967295 - (gt x58 4))) (gt x58 6))))) + (gt y7 x57))) + (gt x19 x57)))))), (175, .int .u32 (gt x58 4)), (176, .pointer (some ⟨b54, 5, none⟩))]) (by kernel_rfl) ?_
            refine OpsT.cons (Does.yi (Yl.load (d := 177) (T := 50) (v := .int .u32 (gt x58 5)) (by kernel_rfl) (ldB ty50 (l := cA (Value.int .u32) x58) (o := 5) (v := .int .u32 (gt x58 5)) (ent_refl _) (arr_getC _ _ 5 hl59 (by kernel_rfl)))) hI ?_)
            refine OpsT.pures (r := [18, 19, 20]) [17] [2, 3, 4, 5, 6, 7, 12, 13, 163, 165, 167, 169, 173, 175, 177, 178] (S' := [(2, .pointer (some ⟨b1, 0, none⟩)), (3, .pointer (some ⟨b5, 0, none⟩)), (4, .pointer (some ⟨b9, 0, none⟩)), (5, .string y11), (6, .int .i64 x14), (7, .pointer (some ⟨b18, 0, none⟩)), (12, .pointer (some ⟨b54, 0, none⟩)), (13, .int .i64 x57), (163, .int .u32 (wu32 ((wu32 ((wu32 ((wu32 ((wu32 ((gt x58 7) + (bXor .u32 (bXor .u32 y64 y66) y68))) + (bXor .u32 (bAnd .u32 (gt x58 4) (gt x58 5)) (bAnd .u32 (wu32 (4294967295 - (gt x58 4))) (gt x58 6))))) + (gt y7 x57))) + (gt x19 x57))) + (wu32 ((bXor .u32 (bXor .u32 y70 y72) y74) + (bXor .u32 (bXor .u32 (bAnd .u32 (gt x58 0) (gt x58 1)) (bAnd .u32 (gt x58 0) (gt x58 2))) (bAnd .u32 (gt x58 1) (gt x58 2)))))))), (165, .int .u32 (gt x58 0)), (167, .int .u32 (gt x58 1)), (169, .int .u32 (gt x58 2)), (173, .int .u32 (wu32 ((gt x58 3) + (wu32 ((wu32 ((wu32 ((wu32 ((gt x58 7) + (bXor .u32 (bXor .u32 y64 y66) y68))) + (bXor .u32 (bAnd .u32 (gt x58 4) (gt x58 5)) (bAnd .u32 (wu32 (4294967295 - (gt x58 4))) (gt x58 6))))) + (gt y7 x57))) + (gt x19 x57)))))), (175, .int .u32 (gt x58 4)), (177, .int .u32 (gt x58 5)), (178, .pointer (some ⟨b54, 6, none⟩))]) (by kernel_rfl) ?_
            refine OpsT.cons (Does.yi (Yl.load (d := 179) (T := 50) (v := .int .u32 (gt x58 6)) (by kernel_rfl) (ldB ty50 (l := cA (Value.int .u32) x58) (o := 6) (v := .int .u32 (gt x58 6)) (ent_refl _) (arr_getC _ _ 6 hl59 (by kernel_rfl)))) hI ?_)
            refine OpsT.pures (r := [20]) [19] [2, 3, 4, 5, 6, 7, 12, 13, 180] (S' := [(2, .pointer (some ⟨b1, 0, none⟩)), (3, .pointer (some ⟨b5, 0, none⟩)), (4, .pointer (some ⟨b9, 0, none⟩)), (5, .string y11), (6, .int .i64 x14), (7, .pointer (some ⟨b18, 0, none⟩)), (12, .pointer (some ⟨b54, 0, none⟩)), (13, .int .i64 x57), (180, .agg (cA (Value.int .u32) ([wu32 ((wu32 ((wu32 ((wu32 ((wu32 ((gt x58 7) + (bXor .u32 (bXor .u32 y64 y66) y68))) + (bXor .u32 (bAnd .u32 (gt x58 4) (gt x58 5)) (bAnd .u32 (wu32 (4294967295 - (gt x58 4))) (gt x58 6))))) + (gt y7 x57))) + (gt x19 x57))) + (wu32 ((bXor .u32 (bXor .u32 y70 y72) y74) + (bXor .u32 (bXor .u32 (bAnd .u32 (gt x58 0) (gt x58 1)) (bAnd .u32 (gt x58 0) (gt x58 2))) (bAnd .u32 (gt x58 1) (gt x58 2)))))), gt x58 0, gt x58 1, gt x58 2, wu32 ((gt x58 3) + (wu32 ((wu32 ((wu32 ((wu32 ((gt x58 7) + (bXor .u32 (bXor .u32 y64 y66) y68))) + (bXor .u32 (bAnd .u32 (gt x58 4) (gt x58 5)) (bAnd .u32 (wu32 (4294967295 - (gt x58 4))) (gt x58 6))))) + (gt y7 x57))) + (gt x19 x57)))), gt x58 4, gt x58 5, gt x58 6] : List Int)).toArray)]) (by kernel_rfl) ?_
            refine OpsT.cons (Does.storeAll (T := 51) (b := b54) (n := 8) (xs := x58) (ys := ([wu32 ((wu32 ((wu32 ((wu32 ((wu32 ((gt x58 7) + (bXor .u32 (bXor .u32 y64 y66) y68))) + (bXor .u32 (bAnd .u32 (gt x58 4) (gt x58 5)) (bAnd .u32 (wu32 (4294967295 - (gt x58 4))) (gt x58 6))))) + (gt y7 x57))) + (gt x19 x57))) + (wu32 ((bXor .u32 (bXor .u32 y70 y72) y74) + (bXor .u32 (bXor .u32 (bAnd .u32 (gt x58 0) (gt x58 1)) (bAnd .u32 (gt x58 0) (gt x58 2))) (bAnd .u32 (gt x58 1) (gt x58 2)))))), gt x58 0, gt x58 1, gt x58 2, wu32 ((gt x58 3) + (wu32 ((wu32 ((wu32 ((wu32 ((gt x58 7) + (bXor .u32 (bXor .u32 y64 y66) y68))) + (bXor .u32 (bAnd .u32 (gt x58 4) (gt x58 5)) (bAnd .u32 (wu32 (4294967295 - (gt x58 4))) (gt x58 6))))) + (gt y7 x57))) + (gt x19 x57)))), gt x58 4, gt x58 5, gt x58 6] : List Int)) (by kernel_rfl) ty51 hI (fun _ => rfl) hl59 (by kernel_rfl) ?_)
            intro w hI
            refine OpsT.done ?_
            refine Qn.block_normal ?_
            refine Qn.then ?_
            refine CodT.regionL [0, 1, 2] (by kernel_rfl) ?_
            refine OpsT.pures (r := []) [0, 1, 2] [2, 3, 4, 5, 6, 7, 12, 13] (S' := [(2, .pointer (some ⟨b1, 0, none⟩)), (3, .pointer (some ⟨b5, 0, none⟩)), (4, .pointer (some ⟨b9, 0, none⟩)), (5, .string y11), (6, .int .i64 x14), (7, .pointer (some ⟨b18, 0, none⟩)), (12, .pointer (some ⟨b54, 0, none⟩)), (13, .int .i64 (wi64 (x57 + 1)))]) (by kernel_rfl) ?_
            refine OpsT.done ?_
            exact Qn.thenJ fun a ha => ⟨k, Nat.lt_succ_self k, wi64 (x57 + 1), ([wu32 ((wu32 ((wu32 ((wu32 ((wu32 ((gt x58 7) + (bXor .u32 (bXor .u32 y64 y66) y68))) + (bXor .u32 (bAnd .u32 (gt x58 4) (gt x58 5)) (bAnd .u32 (wu32 (4294967295 - (gt x58 4))) (gt x58 6))))) + (gt y7 x57))) + (gt x19 x57))) + (wu32 ((bXor .u32 (bXor .u32 y70 y72) y74) + (bXor .u32 (bXor .u32 (bAnd .u32 (gt x58 0) (gt x58 1)) (bAnd .u32 (gt x58 0) (gt x58 2))) (bAnd .u32 (gt x58 1) (gt x58 2)))))), gt x58 0, gt x58 1, gt x58 2, wu32 ((gt x58 3) + (wu32 ((wu32 ((wu32 ((wu32 ((gt x58 7) + (bXor .u32 (bXor .u32 y64 y66) y68))) + (bXor .u32 (bAnd .u32 (gt x58 4) (gt x58 5)) (bAnd .u32 (wu32 (4294967295 - (gt x58 4))) (gt x58 6))))) + (gt y7 x57))) + (gt x19 x57)))), gt x58 4, gt x58 5, gt x58 6] : List Int), h2, ha.keep [2, 3, 4, 5, 6, 7, 12, 13] (by kernel_rfl), hI, (by kernel_rfl)⟩
          · rw [if_neg hb60] at h2
            refine CodT.no' (b := decide (x57 < 64)) (by kernel_rfl) (by simpa using hb60) ?_
            refine CodT.exit ?_
            refine Qn.exit_then ?_
            refine Qn.exit_then ?_
            refine Qn.block ?_
            have hI := hI.mono (pick2 _ _ _)
            have hI := hI.drop
            have e := someS h2
            subst e
            exact Qn.thenJ fun a ha => ⟨x58, rfl, ha.keep [2, 3, 4, 5, 6, 12] (by kernel_rfl), hI, hl59⟩
        ·
          rintro a w ⟨x55, rfl, ha, hI, hl56⟩
          try dsimp only at h1
          refine Qn.of ?_ ha
          refine Qn.then ?_
          refine CodT.seq ?_
          refine CodT.regionL [0] (by kernel_rfl) ?_
          refine OpsT.pures (r := []) [0] [2, 3, 4, 5, 6, 12, 19] (S' := [(2, .pointer (some ⟨b1, 0, none⟩)), (3, .pointer (some ⟨b5, 0, none⟩)), (4, .pointer (some ⟨b9, 0, none⟩)), (5, .string y11), (6, .int .i64 x14), (12, .pointer (some ⟨b54, 0, none⟩)), (19, .int .i64 0)]) (by kernel_rfl) ?_
          refine OpsT.done ?_
          refine Qn.then ?_
          obtain ⟨r2, h2, h1⟩ := bindS h1
          refine CodT.meet1 (fun a w => ∃ (x75 : (List Int)), x75 = r2 ∧ Fr 216 [(2, .pointer (some ⟨b1, 0, none⟩)), (3, .pointer (some ⟨b5, 0, none⟩)), (4, .pointer (some ⟨b9, 0, none⟩)), (5, .string y11), (6, .int .i64 x14)] a ∧ Inv w0 Z w (star (pt b9 (.cells (cA (Value.int .u32) y7).toArray 52 (0, 0))) (star (pt b5 (.cells (cA (Value.int .u32) x75).toArray 51 (0, 0))) (star (pt b1 (.cells (cA (Value.int .u8) (List.replicate 32 (0 : Int))).toArray 23 (0, 0))) A))) ∧ x75.length = 8) ?_ ?_
          ·
            refine CodT.block ?_
            refine (fun a ha => wp_loopN (fun k a w => ∃ (x77 : Int) (x78 : (List Int)), ref02_Of.l4 x55 k x77 x78 = some r2 ∧ Fr 216 [(2, .pointer (some ⟨b1, 0, none⟩)), (3, .pointer (some ⟨b5, 0, none⟩)), (4, .pointer (some ⟨b9, 0, none⟩)), (5, .string y11), (6, .int .i64 x14), (12, .pointer (some ⟨b54, 0, none⟩)), (19, .int .i64 x77)] a ∧ Inv w0 Z w (star (pt b54 (.cells (cA (Value.int .u32) x55).toArray 51 (0, 0))) (star (pt b9 (.cells (cA (Value.int .u32) y7).toArray 52 (0, 0))) (star (pt b5 (.cells (cA (Value.int .u32) x78).toArray 51 (0, 0))) (star (pt b1 (.cells (cA (Value.int .u8) (List.replicate 32 (0 : Int))).toArray 23 (0, 0))) A)))) ∧ x78.length = 8) ?_ FU a w ⟨0, x15, h2, ha.keep [2, 3, 4, 5, 6, 12, 19] (by kernel_rfl), hI, hl16⟩)
            clear h2 hI
            rintro k a w ⟨x77, x78, h2, ha, hI, hl79⟩
            rcases k with _ | k
            · cases h2
            simp only [ref02_Of.l4] at h2
            refine CodT.of ?_ ha
            refine CodT.seq ?_
            refine CodT.seq ?_
            refine CodT.regionL [0, 1] (by kernel_rfl) ?_
            refine OpsT.pures (r := []) [0, 1] [2, 3, 4, 5, 6, 12, 19, 182] (S' := [(2, .pointer (some ⟨b1, 0, none⟩)), (3, .pointer (some ⟨b5, 0, none⟩)), (4, .pointer (some ⟨b9, 0, none⟩)), (5, .string y11), (6, .int .i64 x14), (12, .pointer (some ⟨b54, 0, none⟩)), (19, .int .i64 x77), (182, .bool (decide (x77 < 8)))]) (by kernel_rfl) ?_
            refine OpsT.done ?_
            refine Qn.then ?_
            by_cases hb80 : (decide (x77 < 8)) = true
            · rw [if_pos hb80] at h2
              refine CodT.yes' (b := decide (x77 < 8)) (by kernel_rfl) hb80 ?_
              refine CodT.skip ?_
              refine Qn.then ?_
              refine CodT.seq ?_
              refine CodT.block ?_
              refine CodT.drawI (n := 10) [9] (by kernel_rfl) (by kernel_rfl) hI ?_
              intro w hI
              refine GmT.p 0 185 (.int .i64 x77) 2 (by kernel_rfl) (by kernel_rfl) hI (by kernel_rfl) ?_
              refine GmT.p 1 186 (.int .i64 x77) 2 (by kernel_rfl) (by kernel_rfl) hI (by kernel_rfl) ?_
              refine GmT.p 4 189 (.int .i64 x77) 2 (by kernel_rfl) (by kernel_rfl) hI (by kernel_rfl) ?_
              obtain ⟨hg81, h2⟩ := guardS h2
              refine GmT.r (i := 2) 2 (by kernel_rfl) (by kernel_rfl) (Yl.indexArr (d := 187) (T := 51) (k := .i64) (j := x77) (g := b5) (o := 0) (by kernel_rfl) Go.Proofs.Try.underlying51 ty50 hg81.1 hg81.2) hI ?_
              refine GmT.r (i := 3) 2 (by kernel_rfl) (by kernel_rfl) (Yl.load (d := 188) (T := 50) (v := .int .u32 (gt x78 x77)) (by kernel_rfl) (ldB ty50 (l := cA (Value.int .u32) x78) (o := 0 + x77.toNat * 1) (v := .int .u32 (gt x78 x77)) (pick3 _ _ _ _) (arr_get _ _ hg81.1 (by have := And.intro hl79 hg81.2; omega)))) hI ?_
              obtain ⟨hg82, h2⟩ := guardS h2
              refine GmT.r (i := 5) 2 (by kernel_rfl) (by kernel_rfl) (Yl.indexArr (d := 190) (T := 51) (k := .i64) (j := x77) (g := b54) (o := 0) (by kernel_rfl) Go.Proofs.Try.underlying51 ty50 hg82.1 hg82.2) hI ?_
              refine GmT.r (i := 6) 2 (by kernel_rfl) (by kernel_rfl) (Yl.load (d := 191) (T := 50) (v := .int .u32 (gt x55 x77)) (by kernel_rfl) (ldB ty50 (l := cA (Value.int .u32) x55) (o := 0 + x77.toNat * 1) (v := .int .u32 (gt x55 x77)) (ent_refl _) (arr_get _ _ hg82.1 (by have := And.intro hl56 hg82.2; omega)))) hI ?_
              refine GmT.p 7 192 (.int .u32 (wu32 ((gt x78 x77) + (gt x55 x77)))) 2 (by kernel_rfl) (by kernel_rfl) hI (by kernel_rfl) ?_
              obtain ⟨hg83, h2⟩ := guardS h2
              refine GmT.r (i := 8) 2 (by kernel_rfl) (by kernel_rfl) (Yl.indexArr (d := 193) (T := 51) (k := .i64) (j := x77) (g := b5) (o := 0) (by kernel_rfl) Go.Proofs.Try.underlying51 ty50 hg83.1 hg83.2) hI ?_
              have hI := hI.mono (pick3 _ _ _ _)
              refine GmT.o (i := 9) (by kernel_rfl) (Does.storeArr (e := (Value.int .u32)) (xs := x78) (u := wu32 ((gt x78 x77) + (gt x55 x77))) (T := 50) (b := b5) (j := x77) (by kernel_rfl) ty50 hI (by kernel_rfl) (by kernel_rfl) hg83.1 (by have := And.intro hl79 hg83.2; omega) ?_)
              intro w hI
              refine ⟨fun h => absurd h (by decide), ?_⟩
              refine GmT.done (by kernel_rfl) ?_
              refine Qn.block_normal ?_
              refine Qn.then ?_
              refine CodT.regionL [0, 1, 2] (by kernel_rfl) ?_
              refine OpsT.pures (r := []) [0, 1, 2] [2, 3, 4, 5, 6, 12, 19] (S' := [(2, .pointer (some ⟨b1, 0, none⟩)), (3, .pointer (some ⟨b5, 0, none⟩)), (4, .pointer (some ⟨b9, 0, none⟩)), (5, .string y11), (6, .int .i64 x14), (12, .pointer (some ⟨b54, 0, none⟩)), (19, .int .i64 (wi64 (x77 + 1)))]) (by kernel_rfl) ?_
              refine OpsT.done ?_
              have hI := hI.mono (pick4 _ _ _ _ _)
              have hI := hI.mono (pick2 _ _ _)
              have hI := hI.mono (pick4 _ _ _ _ _)
              have hI := hI.mono (pick4 _ _ _ _ _)
              exact Qn.thenJ fun a ha => ⟨k, Nat.lt_succ_self k, wi64 (x77 + 1), st x78 x77 (wu32 ((gt x78 x77) + (gt x55 x77))), h2, ha.keep [2, 3, 4, 5, 6, 12, 19] (by kernel_rfl), hI, ((st_length _ _ _).trans hl79)⟩
            · rw [if_neg hb80] at h2
              refine CodT.no' (b := decide (x77 < 8)) (by kernel_rfl) (by simpa using hb80) ?_
              refine CodT.exit ?_
              refine Qn.exit_then ?_
              refine Qn.exit_then ?_
              refine Qn.block ?_
              have hI := hI.drop
              have e := someS h2
              subst e
              exact Qn.thenJ fun a ha => ⟨x78, rfl, ha.keep [2, 3, 4, 5, 6] (by kernel_rfl), hI, hl79⟩
          ·
            rintro a w ⟨x75, rfl, ha, hI, hl76⟩
            try dsimp only at h1
            refine Qn.of ?_ ha
            refine Qn.block_normal ?_
            refine Qn.then ?_
            refine CodT.regionL [0, 1, 2] (by kernel_rfl) ?_
            refine OpsT.pures (r := []) [0, 1, 2] [2, 3, 4, 5, 6] (S' := [(2, .pointer (some ⟨b1, 0, none⟩)), (3, .pointer (some ⟨b5, 0, none⟩)), (4, .pointer (some ⟨b9, 0, none⟩)), (5, .string y11), (6, .int .i64 (wi64 (x14 + 64)))]) (by kernel_rfl) ?_
            refine OpsT.done ?_
            exact Qn.thenJ fun a ha => ⟨k, Nat.lt_succ_self k, wi64 (x14 + 64), x75, h1, ha.keep [2, 3, 4, 5, 6] (by kernel_rfl), hI, hl76⟩
    · rw [if_neg hb17] at h1
      refine CodT.no' (b := decide (x14 < (y11.size : Int))) (by kernel_rfl) (by simpa using hb17) ?_
      refine CodT.exit ?_
      refine Qn.exit_then ?_
      refine Qn.exit_then ?_
      refine Qn.block ?_
      have hI := hI.drop
      have e := someS h1
      subst e
      exact Qn.thenJ fun a ha => ⟨x15, rfl, ha.keep [2, 3] (by kernel_rfl), hI, hl16⟩
  ·
    rintro a w ⟨x12, rfl, ha, hI, hl13⟩
    try dsimp only at h0
    refine Qn.of ?_ ha
    refine Qn.then ?_
    refine CodT.seq ?_
    refine CodT.regionL [0] (by kernel_rfl) ?_
    refine OpsT.cons (Does.allocL (d := 20) (T := 23) (cA (Value.int .u8) (List.replicate 32 (0 : Int))) (by kernel_rfl) ty23 hI (by kernel_rfl) ?_)
    intro b84 w hI
    refine OpsT.done ?_
    refine Qn.then ?_
    refine CodT.seq ?_
    refine CodT.seq ?_
    refine CodT.regionL [0] (by kernel_rfl) ?_
    refine OpsT.pures (r := []) [0] [2, 3, 20, 21] (S' := [(2, .pointer (some ⟨b1, 0, none⟩)), (3, .pointer (some ⟨b5, 0, none⟩)), (20, .pointer (some ⟨b84, 0, none⟩)), (21, .int .i64 0)]) (by kernel_rfl) ?_
    refine OpsT.done ?_
    refine Qn.then ?_
    obtain ⟨r1, h1, h0⟩ := bindS h0
    refine CodT.meet1 (fun a w => ∃ (x85 : (List Int)), x85 = r1 ∧ Fr 216 [(2, .pointer (some ⟨b1, 0, none⟩)), (20, .pointer (some ⟨b84, 0, none⟩))] a ∧ Inv w0 Z w (star (pt b84 (.cells (cA (Value.int .u8) x85).toArray 23 (0, 0))) (star (pt b1 (.cells (cA (Value.int .u8) (List.replicate 32 (0 : Int))).toArray 23 (0, 0))) A)) ∧ x85.length = 32) ?_ ?_
    ·
      refine CodT.block ?_
      refine (fun a ha => wp_loopN (fun k a w => ∃ (x87 : Int) (x88 : (List Int)), ref02_Of.l5 x12 k x87 x88 = some r1 ∧ Fr 216 [(2, .pointer (some ⟨b1, 0, none⟩)), (3, .pointer (some ⟨b5, 0, none⟩)), (20, .pointer (some ⟨b84, 0, none⟩)), (21, .int .i64 x87)] a ∧ Inv w0 Z w (star (pt b84 (.cells (cA (Value.int .u8) x88).toArray 23 (0, 0))) (star (pt b5 (.cells (cA (Value.int .u32) x12).toArray 51 (0, 0))) (star (pt b1 (.cells (cA (Value.int .u8) (List.replicate 32 (0 : Int))).toArray 23 (0, 0))) A))) ∧ x88.length = 32) ?_ FU a w ⟨0, (List.replicate 32 (0 : Int)), h1, ha.keep [2, 3, 20, 21] (by kernel_rfl), hI, (by kernel_rfl)⟩)
      clear h1 hI
      rintro k a w ⟨x87, x88, h1, ha, hI, hl89⟩
      rcases k with _ | k
      · cases h1
      simp only [ref02_Of.l5] at h1
      refine CodT.of ?_ ha
      refine CodT.seq ?_
      refine CodT.seq ?_
      refine CodT.regionL [0, 1] (by kernel_rfl) ?_
      refine OpsT.pures (r := []) [0, 1] [2, 3, 20, 21, 195] (S' := [(2, .pointer (some ⟨b1, 0, none⟩)), (3, .pointer (some ⟨b5, 0, none⟩)), (20, .pointer (some ⟨b84, 0, none⟩)), (21, .int .i64 x87), (195, .bool (decide (x87 < 32)))]) (by kernel_rfl) ?_
      refine OpsT.done ?_
      refine Qn.then ?_
      by_cases hb90 : (decide (x87 < 32)) = true
      · rw [if_pos hb90] at h1
        refine CodT.yes' (b := decide (x87 < 32)) (by kernel_rfl) hb90 ?_
        refine CodT.skip ?_
        refine Qn.then ?_
        refine CodT.seq ?_
        refine CodT.block ?_
        refine CodT.seq ?_
        refine CodT.regionL [0, 1, 2, 3, 4] (by kernel_rfl) ?_
        refine OpsT.pures (r := [2, 3, 4]) [0, 1] [2, 3, 20, 21, 199] (S' := [(2, .pointer (some ⟨b1, 0, none⟩)), (3, .pointer (some ⟨b5, 0, none⟩)), (20, .pointer (some ⟨b84, 0, none⟩)), (21, .int .i64 x87), (199, .int .i64 (wi64 (x87.tdiv 4)))]) (by kernel_rfl) ?_
        obtain ⟨hg91, h1⟩ := guardS h1
        refine OpsT.cons (Does.yi (Yl.indexArr (d := 200) (T := 51) (k := .i64) (j := wi64 (x87.tdiv 4)) (g := b5) (o := 0) (by kernel_rfl) Go.Proofs.Try.underlying51 ty50 hg91.1 hg91.2) hI ?_)
        refine OpsT.cons (Does.yi (Yl.load (d := 201) (T := 50) (v := .int .u32 (gt x12 (wi64 (x87.tdiv 4)))) (by kernel_rfl) (ldB ty50 (l := cA (Value.int .u32) x12) (o := 0 + (wi64 (x87.tdiv 4)).toNat * 1) (v := .int .u32 (gt x12 (wi64 (x87.tdiv 4)))) (pick2 _ _ _) (arr_get _ _ hg91.1 (by have := And.intro hl13 hg91.2; omega)))) hI ?_)
        refine OpsT.pures (r := []) [4] [2, 3, 20, 21, 22] (S' := [(2, .pointer (some ⟨b1, 0, none⟩)), (3, .pointer (some ⟨b5, 0, none⟩)), (20, .pointer (some ⟨b84, 0, none⟩)), (21, .int .i64 x87), (22, .int .u32 (gt x12 (wi64 (x87.tdiv 4))))]) (by kernel_rfl) ?_
        refine OpsT.done ?_
        refine Qn.then ?_
        refine CodT.seq ?_
        refine CodT.seq ?_
        refine CodT.regionL [0, 1, 2] (by kernel_rfl) ?_
        refine OpsT.pures (r := []) [0, 1, 2] [2, 3, 20, 21, 22, 23] (S' := [(2, .pointer (some ⟨b1, 0, none⟩)), (3, .pointer (some ⟨b5, 0, none⟩)), (20, .pointer (some ⟨b84, 0, none⟩)), (21, .int .i64 x87), (22, .int .u32 (gt x12 (wi64 (x87.tdiv 4)))), (23, .int .i64 (x87.tmod 4))]) (by kernel_rfl) ?_
        refine OpsT.done ?_
        refine Qn.then ?_
        obtain ⟨r2, h2, h1⟩ := bindS h1
        refine CodT.meet1 (fun a w => ∃ (x92 : Int), x92 = r2 ∧ Fr 216 [(2, .pointer (some ⟨b1, 0, none⟩)), (3, .pointer (some ⟨b5, 0, none⟩)), (20, .pointer (some ⟨b84, 0, none⟩)), (21, .int .i64 x87), (22, .int .u32 x92)] a ∧ Inv w0 Z w (star (pt b84 (.cells (cA (Value.int .u8) x88).toArray 23 (0, 0))) (star (pt b5 (.cells (cA (Value.int .u32) x12).toArray 51 (0, 0))) (star (pt b1 (.cells (cA (Value.int .u8) (List.replicate 32 (0 : Int))).toArray 23 (0, 0))) A)))) ?_ ?_
        ·
          refine CodT.block ?_
          refine (fun a ha => wp_loopN (fun k a w => ∃ (x93 : Int) (x94 : Int), ref02_Of.l6 k x93 x94 = some r2 ∧ Fr 216 [(2, .pointer (some ⟨b1, 0, none⟩)), (3, .pointer (some ⟨b5, 0, none⟩)), (20, .pointer (some ⟨b84, 0, none⟩)), (21, .int .i64 x87), (22, .int .u32 x93), (23, .int .i64 x94)] a ∧ Inv w0 Z w (star (pt b84 (.cells (cA (Value.int .u8) x88).toArray 23 (0, 0))) (star (pt b5 (.cells (cA (Value.int .u32) x12).toArray 51 (0, 0))) (star (pt b1 (.cells (cA (Value.int .u8) (List.replicate 32 (0 : Int))).toArray 23 (0, 0))) A)))) ?_ FU a w ⟨gt x12 (wi64 (x87.tdiv 4)), x87.tmod 4, h2, ha.keep [2, 3, 20, 21, 22, 23] (by kernel_rfl), hI⟩)
          clear h2 hI
          rintro k a w ⟨x93, x94, h2, ha, hI⟩
          rcases k with _ | k
          · cases h2
          simp only [ref02_Of.l6] at h2
          refine CodT.of ?_ ha
          refine CodT.seq ?_
          refine CodT.seq ?_
          refine CodT.regionL [0, 1] (by kernel_rfl) ?_
          refine OpsT.pures (r := []) [0, 1] [2, 3, 20, 21, 22, 23, 205] (S' := [(2, .pointer (some ⟨b1, 0, none⟩)), (3, .pointer (some ⟨b5, 0, none⟩)), (20, .pointer (some ⟨b84, 0, none⟩)), (21, .int .i64 x87), (22, .int .u32 x93), (23, .int .i64 x94), (205, .bool (decide (x94 < 3)))]) (by kernel_rfl) ?_
          refine OpsT.done ?_
          refine Qn.then ?_
          by_cases hb95 : (decide (x94 < 3)) = true
          · rw [if_pos hb95] at h2
            refine CodT.yes' (b := decide (x94 < 3)) (by kernel_rfl) hb95 ?_
            refine CodT.skip ?_
            refine Qn.then ?_
            refine CodT.seq ?_
            refine CodT.block ?_
            refine CodT.regionL [0, 1, 2] (by kernel_rfl) ?_
            refine OpsT.pures (r := []) [0, 1, 2] [2, 3, 20, 21, 22, 23] (S' := [(2, .pointer (some ⟨b1, 0, none⟩)), (3, .pointer (some ⟨b5, 0, none⟩)), (20, .pointer (some ⟨b84, 0, none⟩)), (21, .int .i64 x87), (22, .int .u32 (wu32 (x93.tdiv 256))), (23, .int .i64 x94)]) (by kernel_rfl) ?_
            refine OpsT.done ?_
            refine Qn.block_normal ?_
            refine Qn.then ?_
            refine CodT.regionL [0, 1, 2] (by kernel_rfl) ?_
            refine OpsT.pures (r := []) [0, 1, 2] [2, 3, 20, 21, 22, 23] (S' := [(2, .pointer (some ⟨b1, 0, none⟩)), (3, .pointer (some ⟨b5, 0, none⟩)), (20, .pointer (some ⟨b84, 0, none⟩)), (21, .int .i64 x87), (22, .int .u32 (wu32 (x93.tdiv 256))), (23, .int .i64 (wi64 (x94 + 1)))]) (by kernel_rfl) ?_
            refine OpsT.done ?_
            exact Qn.thenJ fun a ha => ⟨k, Nat.lt_succ_self k, wu32 (x93.tdiv 256), wi64 (x94 + 1), h2, ha.keep [2, 3, 20, 21, 22, 23] (by kernel_rfl), hI⟩
          · rw [if_neg hb95] at h2
            refine CodT.no' (b := decide (x94 < 3)) (by kernel_rfl) (by simpa using hb95) ?_
            refine CodT.exit ?_
            refine Qn.exit_then ?_
            refine Qn.exit_then ?_
            refine Qn.block ?_
            have e := someS h2
            subst e
            exact Qn.thenJ fun a ha => ⟨x93, rfl, ha.keep [2, 3, 20, 21, 22] (by kernel_rfl), hI⟩
        ·
          rintro a w ⟨x92, rfl, ha, hI⟩
          try dsimp only at h1
          refine Qn.of ?_ ha
          refine Qn.then ?_
          refine CodT.regionL [0, 1, 2, 3, 4, 5] (by kernel_rfl) ?_
          refine OpsT.pures (r := [4, 5]) [0, 1, 2, 3] [2, 3, 20, 21, 210, 213] (S' := [(2, .pointer (some ⟨b1, 0, none⟩)), (3, .pointer (some ⟨b5, 0, none⟩)), (20, .pointer (some ⟨b84, 0, none⟩)), (21, .int .i64 x87), (210, .int .i64 x87), (213, .int .u8 (wu8 (x92.tmod 256)))]) (by kernel_rfl) ?_
          obtain ⟨hg96, h1⟩ := guardS h1
          refine OpsT.cons (Does.yi (Yl.indexArr (d := 214) (T := 23) (k := .i64) (j := x87) (g := b84) (o := 0) (by kernel_rfl) Go.Proofs.Try.underlying23 ty5 hg96.1 hg96.2) hI ?_)
          refine OpsT.cons (Does.storeArr (e := (Value.int .u8)) (xs := x88) (u := wu8 (x92.tmod 256)) (T := 5) (b := b84) (j := x87) (by kernel_rfl) ty5 hI (by kernel_rfl) (by kernel_rfl) hg96.1 (by have := And.intro hl89 hg96.2; omega) ?_)
          intro w hI
          refine OpsT.done ?_
          refine Qn.block_normal ?_
          refine Qn.then ?_
          refine CodT.regionL [0, 1, 2] (by kernel_rfl) ?_
          refine OpsT.pures (r := []) [0, 1, 2] [2, 3, 20, 21] (S' := [(2, .pointer (some ⟨b1, 0, none⟩)), (3, .pointer (some ⟨b5, 0, none⟩)), (20, .pointer (some ⟨b84, 0, none⟩)), (21, .int .i64 (wi64 (x87 + 1)))]) (by kernel_rfl) ?_
          refine OpsT.done ?_
          exact Qn.thenJ fun a ha => ⟨k, Nat.lt_succ_self k, wi64 (x87 + 1), st x88 x87 (wu8 (x92.tmod 256)), h1, ha.keep [2, 3, 20, 21] (by kernel_rfl), hI, ((st_length _ _ _).trans hl89)⟩
      · rw [if_neg hb90] at h1
        refine CodT.no' (b := decide (x87 < 32)) (by kernel_rfl) (by simpa using hb90) ?_
        refine CodT.exit ?_
        refine Qn.exit_then ?_
        refine Qn.exit_then ?_
        refine Qn.block ?_
        have hI := hI.mono (pick2 _ _ _)
        have hI := hI.drop
        have e := someS h1
        subst e
        exact Qn.thenJ fun a ha => ⟨x88, rfl, ha.keep [2, 20] (by kernel_rfl), hI, hl89⟩
    ·
      rintro a w ⟨x85, rfl, ha, hI, hl86⟩
      try dsimp only at h0
      refine Qn.of ?_ ha
      refine Qn.then ?_
      refine CodT.seq ?_
      refine CodT.regionL [0, 1] (by kernel_rfl) ?_
      refine OpsT.cons (Does.yi (Yl.load (d := 215) (T := 23) (v := .agg (cA (Value.int .u8) x85).toArray) (by kernel_rfl) (ldBN ty23 (l := cA (Value.int .u8) x85) (o := 0) (cs := cA (Value.int .u8) x85) (ent_refl _) ((cA_length _ _).trans hl86) (whole _ _ ((cA_length _ _).trans hl86)))) hI ?_)
      have hI := hI.mono (pick2 _ _ _)
      refine OpsT.cons (Does.storeAll (T := 23) (b := b1) (n := 32) (xs := (List.replicate 32 (0 : Int))) (ys := x85) (by kernel_rfl) ty23 hI (fun _ => rfl) (by kernel_rfl) hl86 ?_)
      intro w hI
      refine OpsT.done ?_
      refine Qn.then ?_
      refine CodT.ret ?_
      have hL97 := (ldBN ty23 (l := cA (Value.int .u8) x85) (o := 0) (cs := cA (Value.int .u8) x85) (ent_refl _) ((cA_length _ _).trans hl86) (whole _ _ ((cA_length _ _).trans hl86))) w hI
      have hI := hI.drop
      have hI := hI.drop
      have e := someS h0
      subst e
      refine Qn.keep [2] (S' := [(2, .pointer (some ⟨b1, 0, none⟩))]) (by kernel_rfl) ?_
      exact post_ret (v := .agg (cA (Value.int .u8) x85).toArray) (fun a ha => RunRes.run (vs := [.agg (cA (Value.int .u8) x85).toArray]) (.cell (t := 2) (T := 23) (ad := ⟨b1, 0, none⟩) (by kernel_rfl) hL97 .nil) ha (by kernel_rfl)) ⟨rfl, hl86, hI⟩
set_option maxRecDepth 100000 in
set_option maxHeartbeats 4000000 in
/-- cenotaph/cenotaphref02.Text -/
theorem c20 (w0 w : World) (Z : Hp) (A : HP) (hI : Inv w0 Z w A) (a0 : (List Int)) (hl_a0 : a0.length = 32) (r : ByteArray) (h0 : ref02_Text a0 = some r) :
    Calls prog 20 #[.agg (cA (Value.int .u8) a0).toArray] w (fun e w' => e = .returned (.string r) ∧ Inv w0 Z w' A) := by
  refine calls_intro (args := [.agg (cA (Value.int .u8) a0).toArray]) (fn := Go.Proofs.Try.f20) 36 Go.Proofs.Try.func20 (by rfl) Go.Proofs.Try.ntmps20 (by kernel_rfl) ?_
  unfold ref02_Text at h0
  refine CodT.seq ?_
  refine CodT.regionL [0, 1] (by kernel_rfl) ?_
  refine OpsT.cons (Does.boxL (d := 1) (T := 23) (v := .agg (cA (Value.int .u8) a0).toArray) (cA (Value.int .u8) a0) (by kernel_rfl) hI (by kernel_rfl) ?_)
  intro b1 w hI
  refine OpsT.pures (r := []) [1] [1] (S' := [(1, .pointer (some ⟨b1, 0, none⟩))]) (by kernel_rfl) ?_
  refine OpsT.done ?_
  refine Qn.then ?_
  refine CodT.seq ?_
  refine CodT.regionL [0] (by kernel_rfl) ?_
  refine OpsT.pures (r := []) [0] [1, 3] (S' := [(1, .pointer (some ⟨b1, 0, none⟩)), (3, .string (⟨#[48, 49, 50, 51, 52, 53, 54, 55, 56, 57, 97, 98, 99, 100, 101, 102]⟩ : ByteArray))]) (by kernel_rfl) ?_
  refine OpsT.done ?_
  refine Qn.then ?_
  refine CodT.seq ?_
  refine CodT.regionL [0] (by kernel_rfl) ?_
  refine OpsT.pures (r := []) [0] [1, 3, 4] (S' := [(1, .pointer (some ⟨b1, 0, none⟩)), (3, .string (⟨#[48, 49, 50, 51, 52, 53, 54, 55, 56, 57, 97, 98, 99, 100, 101, 102]⟩ : ByteArray)), (4, .string (⟨#[]⟩ : ByteArray))]) (by kernel_rfl) ?_
  refine OpsT.done ?_
  refine Qn.then ?_
  refine CodT.seq ?_
  refine CodT.seq ?_
  refine CodT.regionL [0] (by kernel_rfl) ?_
  refine OpsT.pures (r := []) [0] [1, 3, 4, 5] (S' := [(1, .pointer (some ⟨b1, 0, none⟩)), (3, .string (⟨#[48, 49, 50, 51, 52, 53, 54, 55, 56, 57, 97, 98, 99, 100, 101, 102]⟩ : ByteArray)), (4, .string (⟨#[]⟩ : ByteArray)), (5, .int .i64 0)]) (by kernel_rfl) ?_
  refine OpsT.done ?_
  refine Qn.then ?_
  obtain ⟨r1, h1, h0⟩ := bindS h0
  refine CodT.meet1 (fun a w => ∃ (x2 : ByteArray), x2 = r1 ∧ Fr 36 [(4, .string x2)] a ∧ Inv w0 Z w A) ?_ ?_
  ·
    refine CodT.block ?_
    refine (fun a ha => wp_loopN (fun k a w => ∃ (x3 : ByteArray) (x4 : Int), ref02_Text.l0 a0 k x3 x4 = some r1 ∧ Fr 36 [(1, .pointer (some ⟨b1, 0, none⟩)), (3, .string (⟨#[48, 49, 50, 51, 52, 53, 54, 55, 56, 57, 97, 98, 99, 100, 101, 102]⟩ : ByteArray)), (4, .string x3), (5, .int .i64 x4)] a ∧ Inv w0 Z w (star (pt b1 (.cells (cA (Value.int .u8) a0).toArray 23 (0, 0))) A)) ?_ FU a w ⟨(⟨#[]⟩ : ByteArray), 0, h1, ha.keep [1, 3, 4, 5] (by kernel_rfl), hI⟩)
    clear h1 hI
    rintro k a w ⟨x3, x4, h1, ha, hI⟩
    rcases k with _ | k
    · cases h1
    simp only [ref02_Text.l0] at h1
    refine CodT.of ?_ ha
    refine CodT.seq ?_
    refine CodT.seq ?_
    refine CodT.regionL [0, 1] (by kernel_rfl) ?_
    refine OpsT.pures (r := []) [0, 1] [1, 3, 4, 5, 9] (S' := [(1, .pointer (some ⟨b1, 0, none⟩)), (3, .string (⟨#[48, 49, 50, 51, 52, 53, 54, 55, 56, 57, 97, 98, 99, 100, 101, 102]⟩ : ByteArray)), (4, .string x3), (5, .int .i64 x4), (9, .bool (decide (x4 < 32)))]) (by kernel_rfl) ?_
    refine OpsT.done ?_
    refine Qn.then ?_
    by_cases hb5 : (decide (x4 < 32)) = true
    · rw [if_pos hb5] at h1
      refine CodT.yes' (b := decide (x4 < 32)) (by kernel_rfl) hb5 ?_
      refine CodT.skip ?_
      refine Qn.then ?_
      refine CodT.seq ?_
      refine CodT.block ?_
      refine CodT.seq ?_
      refine CodT.regionL [0, 1, 2, 3, 4, 5] (by kernel_rfl) ?_
      refine OpsT.pures (r := [1, 2, 3, 4, 5]) [0] [1, 3, 4, 5, 12] (S' := [(1, .pointer (some ⟨b1, 0, none⟩)), (3, .string (⟨#[48, 49, 50, 51, 52, 53, 54, 55, 56, 57, 97, 98, 99, 100, 101, 102]⟩ : ByteArray)), (4, .string x3), (5, .int .i64 x4), (12, .int .i64 x4)]) (by kernel_rfl) ?_
      obtain ⟨hg6, h1⟩ := guardS h1
      refine OpsT.cons (Does.yi (Yl.indexArr (d := 13) (T := 23) (k := .i64) (j := x4) (g := b1) (o := 0) (by kernel_rfl) Go.Proofs.Try.underlying23 ty5 hg6.1 hg6.2) hI ?_)
      refine OpsT.cons (Does.yi (Yl.load (d := 14) (T := 5) (v := .int .u8 (gt a0 x4)) (by kernel_rfl) (ldB ty5 (l := cA (Value.int .u8) a0) (o := 0 + x4.toNat * 1) (v := .int .u8 (gt a0 x4)) (ent_refl _) (arr_get _ _ hg6.1 (by have := And.intro hl_a0 hg6.2; omega)))) hI ?_)
      refine OpsT.pures (r := []) [3, 4, 5] [1, 3, 4, 5, 6] (S' := [(1, .pointer (some ⟨b1, 0, none⟩)), (3, .string (⟨#[48, 49, 50, 51, 52, 53, 54, 55, 56, 57, 97, 98, 99, 100, 101, 102]⟩ : ByteArray)), (4, .string x3), (5, .int .i64 x4), (6, .int .i64 (wi64 ((wi64 (gt a0 x4)).tdiv 16)))]) (by kernel_rfl) ?_
      refine OpsT.done ?_
      refine Qn.then ?_
      refine CodT.seq ?_
      refine CodT.regionL [0, 1, 2, 3, 4, 5] (by kernel_rfl) ?_
      refine OpsT.pures (r := [1, 2, 3, 4, 5]) [0] [1, 3, 4, 5, 6, 17] (S' := [(1, .pointer (some ⟨b1, 0, none⟩)), (3, .string (⟨#[48, 49, 50, 51, 52, 53, 54, 55, 56, 57, 97, 98, 99, 100, 101, 102]⟩ : ByteArray)), (4, .string x3), (5, .int .i64 x4), (6, .int .i64 (wi64 ((wi64 (gt a0 x4)).tdiv 16))), (17, .int .i64 x4)]) (by kernel_rfl) ?_
      obtain ⟨hg7, h1⟩ := guardS h1
      refine OpsT.cons (Does.yi (Yl.indexArr (d := 18) (T := 23) (k := .i64) (j := x4) (g := b1) (o := 0) (by kernel_rfl) Go.Proofs.Try.underlying23 ty5 hg7.1 hg7.2) hI ?_)
      refine OpsT.cons (Does.yi (Yl.load (d := 19) (T := 5) (v := .int .u8 (gt a0 x4)) (by kernel_rfl) (ldB ty5 (l := cA (Value.int .u8) a0) (o := 0 + x4.toNat * 1) (v := .int .u8 (gt a0 x4)) (ent_refl _) (arr_get _ _ hg7.1 (by have := And.intro hl_a0 hg7.2; omega)))) hI ?_)
      refine OpsT.pures (r := []) [3, 4, 5] [1, 3, 4, 5, 6, 7] (S' := [(1, .pointer (some ⟨b1, 0, none⟩)), (3, .string (⟨#[48, 49, 50, 51, 52, 53, 54, 55, 56, 57, 97, 98, 99, 100, 101, 102]⟩ : ByteArray)), (4, .string x3), (5, .int .i64 x4), (6, .int .i64 (wi64 ((wi64 (gt a0 x4)).tdiv 16))), (7, .int .i64 ((wi64 (gt a0 x4)).tmod 16))]) (by kernel_rfl) ?_
      refine OpsT.done ?_
      refine Qn.then ?_
      refine CodT.drawI (n := 14) [] (by kernel_rfl) (by kernel_rfl) hI ?_
      intro w hI
      refine GmT.p 0 22 (.string x3) 2 (by kernel_rfl) (by kernel_rfl) hI (by kernel_rfl) ?_
      refine GmT.p 1 23 (.string (⟨#[48, 49, 50, 51, 52, 53, 54, 55, 56, 57, 97, 98, 99, 100, 101, 102]⟩ : ByteArray)) 2 (by kernel_rfl) (by kernel_rfl) hI (by kernel_rfl) ?_
      refine GmT.p 2 24 (.int .i64 (wi64 ((wi64 (gt a0 x4)).tdiv 16))) 2 (by kernel_rfl) (by kernel_rfl) hI (by kernel_rfl) ?_
      refine GmT.p 3 25 (.int .i64 (wi64 ((wi64 (gt a0 x4)).tdiv 16))) 2 (by kernel_rfl) (by kernel_rfl) hI (by kernel_rfl) ?_
      refine GmT.p 4 26 (.int .i64 (wi64 ((wi64 ((wi64 (gt a0 x4)).tdiv 16)) + 1))) 2 (by kernel_rfl) (by kernel_rfl) hI (by kernel_rfl) ?_
      refine GmT.p 7 29 (.string (⟨#[48, 49, 50, 51, 52, 53, 54, 55, 56, 57, 97, 98, 99, 100, 101, 102]⟩ : ByteArray)) 2 (by kernel_rfl) (by kernel_rfl) hI (by kernel_rfl) ?_
      refine GmT.p 8 30 (.int .i64 ((wi64 (gt a0 x4)).tmod 16)) 2 (by kernel_rfl) (by kernel_rfl) hI (by kernel_rfl) ?_
      refine GmT.p 9 31 (.int .i64 ((wi64 (gt a0 x4)).tmod 16)) 2 (by kernel_rfl) (by kernel_rfl) hI (by kernel_rfl) ?_
      refine GmT.p 10 32 (.int .i64 (wi64 (((wi64 (gt a0 x4)).tmod 16) + 1))) 2 (by kernel_rfl) (by kernel_rfl) hI (by kernel_rfl) ?_
      obtain ⟨hg8, h1⟩ := guardS h1
      refine GmT.r (i := 5) 2 (by kernel_rfl) (by kernel_rfl) (Yl.sliceStr11 (d := 27) (T := 9) (s := (⟨#[48, 49, 50, 51, 52, 53, 54, 55, 56, 57, 97, 98, 99, 100, 101, 102]⟩ : ByteArray)) (lo := wi64 ((wi64 (gt a0 x4)).tdiv 16)) (hi := wi64 ((wi64 ((wi64 (gt a0 x4)).tdiv 16)) + 1)) (by kernel_rfl) Go.Proofs.Try.underlying9 hg8) hI ?_
      obtain ⟨hg9, h1⟩ := guardS h1
      refine GmT.r (i := 6) 2 (by kernel_rfl) (by kernel_rfl) (Yl.cat (d := 28) (T := 9) (x := x3) (y := sx (⟨#[48, 49, 50, 51, 52, 53, 54, 55, 56, 57, 97, 98, 99, 100, 101, 102]⟩ : ByteArray) (wi64 ((wi64 (gt a0 x4)).tdiv 16)) (wi64 ((wi64 ((wi64 (gt a0 x4)).tdiv 16)) + 1))) (by kernel_rfl) hg9) hI ?_
      obtain ⟨hg10, h1⟩ := guardS h1
      refine GmT.r (i := 11) 2 (by kernel_rfl) (by kernel_rfl) (Yl.sliceStr11 (d := 33) (T := 9) (s := (⟨#[48, 49, 50, 51, 52, 53, 54, 55, 56, 57, 97, 98, 99, 100, 101, 102]⟩ : ByteArray)) (lo := (wi64 (gt a0 x4)).tmod 16) (hi := wi64 (((wi64 (gt a0 x4)).tmod 16) + 1)) (by kernel_rfl) Go.Proofs.Try.underlying9 hg10) hI ?_
      obtain ⟨hg11, h1⟩ := guardS h1
      refine GmT.r (i := 12) 2 (by kernel_rfl) (by kernel_rfl) (Yl.cat (d := 34) (T := 9) (x := x3 ++ (sx (⟨#[48, 49, 50, 51, 52, 53, 54, 55, 56, 57, 97, 98, 99, 100, 101, 102]⟩ : ByteArray) (wi64 ((wi64 (gt a0 x4)).tdiv 16)) (wi64 ((wi64 ((wi64 (gt a0 x4)).tdiv 16)) + 1)))) (y := sx (⟨#[48, 49, 50, 51, 52, 53, 54, 55, 56, 57, 97, 98, 99, 100, 101, 102]⟩ : ByteArray) ((wi64 (gt a0 x4)).tmod 16) (wi64 (((wi64 (gt a0 x4)).tmod 16) + 1))) (by kernel_rfl) hg11) hI ?_
      refine GmT.p 13 4 (.string ((x3 ++ (sx (⟨#[48, 49, 50, 51, 52, 53, 54, 55, 56, 57, 97, 98, 99, 100, 101, 102]⟩ : ByteArray) (wi64 ((wi64 (gt a0 x4)).tdiv 16)) (wi64 ((wi64 ((wi64 (gt a0 x4)).tdiv 16)) + 1)))) ++ (sx (⟨#[48, 49, 50, 51, 52, 53, 54, 55, 56, 57, 97, 98, 99, 100, 101, 102]⟩ : ByteArray) ((wi64 (gt a0 x4)).tmod 16) (wi64 (((wi64 (gt a0 x4)).tmod 16) + 1))))) 2 (by kernel_rfl) (by kernel_rfl) hI (by kernel_rfl) ?_
      refine GmT.done (by kernel_rfl) ?_
      refine Qn.block_normal ?_
      refine Qn.then ?_
      refine CodT.regionL [0, 1, 2] (by kernel_rfl) ?_
      refine OpsT.pures (r := []) [0, 1, 2] [1, 3, 4, 5] (S' := [(1, .pointer (some ⟨b1, 0, none⟩)), (3, .string (⟨#[48, 49, 50, 51, 52, 53, 54, 55, 56, 57, 97, 98, 99, 100, 101, 102]⟩ : ByteArray)), (4, .string ((x3 ++ (sx (⟨#[48, 49, 50, 51, 52, 53, 54, 55, 56, 57, 97, 98, 99, 100, 101, 102]⟩ : ByteArray) (wi64 ((wi64 (gt a0 x4)).tdiv 16)) (wi64 ((wi64 ((wi64 (gt a0 x4)).tdiv 16)) + 1)))) ++ (sx (⟨#[48, 49, 50, 51, 52, 53, 54, 55, 56, 57, 97, 98, 99, 100, 101, 102]⟩ : ByteArray) ((wi64 (gt a0 x4)).tmod 16) (wi64 (((wi64 (gt a0 x4)).tmod 16) + 1))))), (5, .int .i64 (wi64 (x4 + 1)))]) (by kernel_rfl) ?_
      refine OpsT.done ?_
      exact Qn.thenJ fun a ha => ⟨k, Nat.lt_succ_self k, (x3 ++ (sx (⟨#[48, 49, 50, 51, 52, 53, 54, 55, 56, 57, 97, 98, 99, 100, 101, 102]⟩ : ByteArray) (wi64 ((wi64 (gt a0 x4)).tdiv 16)) (wi64 ((wi64 ((wi64 (gt a0 x4)).tdiv 16)) + 1)))) ++ (sx (⟨#[48, 49, 50, 51, 52, 53, 54, 55, 56, 57, 97, 98, 99, 100, 101, 102]⟩ : ByteArray) ((wi64 (gt a0 x4)).tmod 16) (wi64 (((wi64 (gt a0 x4)).tmod 16) + 1))), wi64 (x4 + 1), h1, ha.keep [1, 3, 4, 5] (by kernel_rfl), hI⟩
    · rw [if_neg hb5] at h1
      refine CodT.no' (b := decide (x4 < 32)) (by kernel_rfl) (by simpa using hb5) ?_
      refine CodT.exit ?_
      refine Qn.exit_then ?_
      refine Qn.exit_then ?_
      refine Qn.block ?_
      have hI := hI.drop
      have e := someS h1
      subst e
      exact Qn.thenJ fun a ha => ⟨x3, rfl, ha.keep [4] (by kernel_rfl), hI⟩
  ·
    rintro a w ⟨x2, rfl, ha, hI⟩
    try dsimp only at h0
    refine Qn.of ?_ ha
    refine Qn.then ?_
    refine CodT.seq ?_
    refine CodT.regionL [0, 1] (by kernel_rfl) ?_
    refine OpsT.pures (r := []) [0, 1] [2] (S' := [(2, .string x2)]) (by kernel_rfl) ?_
    refine OpsT.done ?_
    refine Qn.then ?_
    refine CodT.ret ?_
    have e := someS h0
    subst e
    refine Qn.keep [2] (S' := [(2, .string x2)]) (by kernel_rfl) ?_
    exact post_ret (v := .string x2) (fun a ha => RunRes.run (vs := [.string x2]) (.tmp (t := 2) (by kernel_rfl) .nil) ha (by kernel_rfl)) ⟨rfl, hI⟩
set_option maxRecDepth 100000 in
set_option maxHeartbeats 4000000 in
/-- cenotaph/cenotaphref02.Bytes -/
theorem c44 (w0 w : World) (Z : Hp) (A : HP) (hI : Inv w0 Z w A) (a0 : (List Int)) (hl_a0 : a0.length = 32) (r : ByteArray) (h0 : ref02_Bytes a0 = some r) :
    Calls prog 44 #[.agg (cA (Value.int .u8) a0).toArray] w (fun e w' => e = .returned (.string r) ∧ Inv w0 Z w' A) := by
  refine calls_intro (args := [.agg (cA (Value.int .u8) a0).toArray]) (fn := Go.Proofs.Try.f44) 17 Go.Proofs.Try.func44 (by rfl) Go.Proofs.Try.ntmps44 (by kernel_rfl) ?_
  unfold ref02_Bytes at h0
  refine CodT.seq ?_
  refine CodT.regionL [0, 1] (by kernel_rfl) ?_
  refine OpsT.cons (Does.boxL (d := 1) (T := 23) (v := .agg (cA (Value.int .u8) a0).toArray) (cA (Value.int .u8) a0) (by kernel_rfl) hI (by kernel_rfl) ?_)
  intro b1 w hI
  refine OpsT.pures (r := []) [1] [1] (S' := [(1, .pointer (some ⟨b1, 0, none⟩))]) (by kernel_rfl) ?_
  refine OpsT.done ?_
  refine Qn.then ?_
  refine CodT.seq ?_
  refine CodT.regionL [0] (by kernel_rfl) ?_
  refine OpsT.pures (r := []) [0] [1, 3] (S' := [(1, .pointer (some ⟨b1, 0, none⟩)), (3, .slice none 0 0)]) (by kernel_rfl) ?_
  refine OpsT.done ?_
  refine Qn.then ?_
  refine CodT.seq ?_
  refine CodT.seq ?_
  refine CodT.regionL [0] (by kernel_rfl) ?_
  refine OpsT.pures (r := []) [0] [1, 3, 4] (S' := [(1, .pointer (some ⟨b1, 0, none⟩)), (3, .slice none 0 0), (4, .int .i64 0)]) (by kernel_rfl) ?_
  refine OpsT.done ?_
  refine Qn.then ?_
  obtain ⟨r1, h1, h0⟩ := bindS h0
  refine CodT.meet1 (fun a w => ∃ (x2 : (List Int)) (A3 : Option Addr) (c4 : Nat), x2 = r1 ∧ Fr 17 [(3, .slice A3 x2.length c4)] a ∧ Inv w0 Z w (star (ownS 5 (cI .u8) 1 A3 c4 x2) A)) ?_ ?_
  ·
    refine CodT.block ?_
    have hI := ownS_nil (α := Int) hI 5 (cI .u8) 1
    refine (fun a ha => wp_loopN (fun k a w => ∃ (x5 : (List Int)) (x8 : Int) (A6 : Option Addr) (c7 : Nat), ref02_Bytes.l0 a0 k x5 x8 = some r1 ∧ Fr 17 [(1, .pointer (some ⟨b1, 0, none⟩)), (3, .slice A6 x5.length c7), (4, .int .i64 x8)] a ∧ Inv w0 Z w (star (ownS 5 (cI .u8) 1 A6 c7 x5) (star (pt b1 (.cells (cA (Value.int .u8) a0).toArray 23 (0, 0))) A))) ?_ FU a w ⟨([] : List Int), 0, none, 0, h1, ha.keep [1, 3, 4] (by kernel_rfl), hI⟩)
    clear h1 hI
    rintro k a w ⟨x5, x8, A6, c7, h1, ha, hI⟩
    rcases k with _ | k
    · cases h1
    simp only [ref02_Bytes.l0] at h1
    refine CodT.of ?_ ha
    refine CodT.seq ?_
    refine CodT.seq ?_
    refine CodT.regionL [0, 1] (by kernel_rfl) ?_
    refine OpsT.pures (r := []) [0, 1] [1, 3, 4, 6] (S' := [(1, .pointer (some ⟨b1, 0, none⟩)), (3, .slice A6 x5.length c7), (4, .int .i64 x8), (6, .bool (decide (x8 < 32)))]) (by kernel_rfl) ?_
    refine OpsT.done ?_
    refine Qn.then ?_
    by_cases hb9 : (decide (x8 < 32)) = true
    · rw [if_pos hb9] at h1
      refine CodT.yes' (b := decide (x8 < 32)) (by kernel_rfl) hb9 ?_
      refine CodT.skip ?_
      refine Qn.then ?_
      refine CodT.seq ?_
      refine CodT.block ?_
      refine CodT.regionL [0, 1, 2, 3, 4, 5, 6] (by kernel_rfl) ?_
      refine OpsT.pures (r := [2, 3, 4, 5, 6]) [0, 1] [1, 4, 9, 10] (S' := [(1, .pointer (some ⟨b1, 0, none⟩)), (4, .int .i64 x8), (9, .slice A6 x5.length c7), (10, .int .i64 x8)]) (by kernel_rfl) ?_
      obtain ⟨hg10, h1⟩ := guardS h1
      refine OpsT.cons (Does.yi (Yl.indexArr (d := 11) (T := 23) (k := .i64) (j := x8) (g := b1) (o := 0) (by kernel_rfl) Go.Proofs.Try.underlying23 ty5 hg10.1 hg10.2) hI ?_)
      refine OpsT.cons (Does.yi (Yl.load (d := 12) (T := 5) (v := .int .u8 (gt a0 x8)) (by kernel_rfl) (ldB ty5 (l := cA (Value.int .u8) a0) (o := 0 + x8.toNat * 1) (v := .int .u8 (gt a0 x8)) (pick2 _ _ _) (arr_get _ _ hg10.1 (by have := And.intro hl_a0 hg10.2; omega)))) hI ?_)
      refine OpsT.cons (Does.buildSlice (en := (cI .u8)) (d := 13) (n := 1) (T := 33) (ps := [(0, .int .u8 (gt a0 x8))]) ([gt a0 x8] : List Int) (by kernel_rfl) Go.Proofs.Try.underlying33 ty5 (by kernel_rfl) (by kernel_rfl) (by kernel_rfl) (by kernel_rfl) (len_all (fun _ => rfl)) hI ?_)
      intro b11 w hI
      obtain ⟨hg12, h1⟩ := guardS h1
      have hI := hI.mono (pick2 _ _ _)
      refine OpsT.cons (Does.append (d := 14) (t := 33) (tx := 33) (ty := 33) (ys := x5) (zs := ([gt a0 x8] : List Int)) (x := .slice (some ⟨b11, 0, none⟩) (([gt a0 x8] : List Int).length) 1) (by kernel_rfl) Go.Proofs.Try.underlying33 ty5 (by kernel_rfl) hI (src_own Go.Proofs.Try.underlying33 (hI.mono (pick2 _ _ _)) (one_flat _ (fun _ => rfl))) (ownS_facts (hI.mono (pick2 _ _ _))).2.2 (by unfold LIM at hg12; omega) hg12 ?_)
      intro A13 c14 w hI
      refine OpsT.pures (r := []) [6] [1, 3, 4] (S' := [(1, .pointer (some ⟨b1, 0, none⟩)), (3, .slice A13 ((x5 ++ ([gt a0 x8] : List Int)).length) c14), (4, .int .i64 x8)]) (by kernel_rfl) ?_
      refine OpsT.done ?_
      refine Qn.block_normal ?_
      refine Qn.then ?_
      refine CodT.regionL [0, 1, 2] (by kernel_rfl) ?_
      refine OpsT.pures (r := []) [0, 1, 2] [1, 3, 4] (S' := [(1, .pointer (some ⟨b1, 0, none⟩)), (3, .slice A13 ((x5 ++ ([gt a0 x8] : List Int)).length) c14), (4, .int .i64 (wi64 (x8 + 1)))]) (by kernel_rfl) ?_
      refine OpsT.done ?_
      have hI := hI.mono (pick2 _ _ _)
      have hI := hI.drop
      exact Qn.thenJ fun a ha => ⟨k, Nat.lt_succ_self k, x5 ++ ([gt a0 x8] : List Int), wi64 (x8 + 1), A13, c14, h1, ha.keep [1, 3, 4] (by kernel_rfl), hI⟩
    · rw [if_neg hb9] at h1
      refine CodT.no' (b := decide (x8 < 32)) (by kernel_rfl) (by simpa using hb9) ?_
      refine CodT.exit ?_
      refine Qn.exit_then ?_
      refine Qn.exit_then ?_
      refine Qn.block ?_
      have hI := hI.mono (pick2 _ _ _)
      have hI := hI.drop
      have e := someS h1
      subst e
      exact Qn.thenJ fun a ha => ⟨x5, A6, c7, rfl, ha.keep [3] (by kernel_rfl), hI⟩
  ·
    rintro a w ⟨x2, A3, c4, rfl, ha, hI⟩
    try dsimp only at h0
    refine Qn.of ?_ ha
    refine Qn.then ?_
    refine CodT.seq ?_
    refine CodT.regionL [0, 1, 2] (by kernel_rfl) ?_
    refine OpsT.pures (r := [1, 2]) [0] [15] (S' := [(15, .slice A3 x2.length c4)]) (by kernel_rfl) ?_
    refine OpsT.cons (Does.b2sOwn (d := 16) (src := 33) (dst := 9) (xs := x2) (by kernel_rfl) Go.Proofs.Try.underlying33 Go.Proofs.Try.underlying5 Go.Proofs.Try.underlying9 hI ?_)
    refine OpsT.pures (r := []) [2] [2] (S' := [(2, .string (strOfNums x2))]) (by kernel_rfl) ?_
    refine OpsT.done ?_
    refine Qn.then ?_
    refine CodT.ret ?_
    have hI := hI.drop
    have e := someS h0
    subst e
    refine Qn.keep [2] (S' := [(2, .string (strOfNums x2))]) (by kernel_rfl) ?_
    exact post_ret (v := .string (strOfNums x2)) (fun a ha => RunRes.run (vs := [.string (strOfNums x2)]) (.tmp (t := 2) (by kernel_rfl) .nil) ha (by kernel_rfl)) ⟨rfl, hI⟩
set_option maxRecDepth 100000 in
set_option maxHeartbeats 4000000 in
/-- cenotaph/cenotaphref02.Link -/
theorem c22 (w0 w : World) (Z : Hp) (A : HP) (hI : Inv w0 Z w A) (a0 : (List Int)) (hl_a0 : a0.length = 32) (a1 : ByteArray) (r : (List Int)) (h0 : ref02_Link a0 a1 = some r) :
    Calls prog 22 #[.agg (cA (Value.int .u8) a0).toArray, .string a1] w (fun e w' => e = .returned (.agg (cA (Value.int .u8) r).toArray) ∧ r.length = 32 ∧ Inv w0 Z w' A) := by
  refine calls_intro (args := [.agg (cA (Value.int .u8) a0).toArray, .string a1]) (fn := Go.Proofs.Try.f22) 10 Go.Proofs.Try.func22 (by rfl) Go.Proofs.Try.ntmps22 (by kernel_rfl) ?_
  unfold ref02_Link at h0
  refine CodT.seq ?_
  refine CodT.regionL [0, 1] (by kernel_rfl) ?_
  refine OpsT.cons (Does.boxL (d := 2) (T := 23) (v := .agg (cA (Value.int .u8) a0).toArray) (cA (Value.int .u8) a0) (by kernel_rfl) hI (by kernel_rfl) ?_)
  intro b1 w hI
  refine OpsT.cons (Does.allocL (d := 4) (T := 23) (cA (Value.int .u8) (List.replicate 32 (0 : Int))) (by kernel_rfl) ty23 hI (by kernel_rfl) ?_)
  intro b2 w hI
  refine OpsT.done ?_
  refine Qn.then ?_
  refine CodT.seq ?_
  refine CodT.regionL [0, 1, 2, 3, 4, 5] (by kernel_rfl) ?_
  refine OpsT.cons (Does.yi (Yl.load (d := 5) (T := 23) (v := .agg (cA (Value.int .u8) a0).toArray) (by kernel_rfl) (ldBN ty23 (l := cA (Value.int .u8) a0) (o := 0) (cs := cA (Value.int .u8) a0) (pick2 _ _ _) ((cA_length _ _).trans hl_a0) (whole _ _ ((cA_length _ _).trans hl_a0)))) hI ?_)
  obtain ⟨y4, hc3, h0⟩ := bindS h0
  try dsimp only at h0
  refine OpsT.cons (Does.call (d := some 6) (n := 44) (vs := [.agg (cA (Value.int .u8) a0).toArray]) (by kernel_rfl) en44 (c44 w0 w _ _ hI a0 hl_a0 _ hc3) ?_)
  rintro e w ⟨rfl, hI⟩
  refine ⟨_, rfl, ?_⟩
  refine OpsT.pures (r := [3, 4, 5]) [2] [4, 6, 7] (S' := [(4, .pointer (some ⟨b2, 0, none⟩)), (6, .string y4), (7, .string a1)]) (by kernel_rfl) ?_
  obtain ⟨hg5, h0⟩ := guardS h0
  refine OpsT.cons (Does.yi (Yl.cat (d := 8) (T := 9) (x := y4) (y := a1) (by kernel_rfl) hg5) hI ?_)
  obtain ⟨y7, hc6, h0⟩ := bindS h0
  try dsimp only at h0
  refine OpsT.cons (Does.call (d := some 9) (n := 16) (vs := [.string (y4 ++ a1)]) (by kernel_rfl) en16 (c16 w0 w _ _ hI (y4 ++ a1) _ hc6) ?_)
  rintro e w ⟨rfl, hl8, hI⟩
  refine ⟨_, rfl, ?_⟩
  refine OpsT.cons (Does.storeAll (T := 23) (b := b2) (n := 32) (xs := (List.replicate 32 (0 : Int))) (ys := y7) (by kernel_rfl) ty23 hI (fun _ => rfl) (by kernel_rfl) hl8 ?_)
  intro w hI
  refine OpsT.done ?_
  refine Qn.then ?_
  refine CodT.ret ?_
  have hL9 := (ldBN ty23 (l := cA (Value.int .u8) y7) (o := 0) (cs := cA (Value.int .u8) y7) (ent_refl _) ((cA_length _ _).trans hl8) (whole _ _ ((cA_length _ _).trans hl8))) w hI
  have hI := hI.drop
  have hI := hI.drop
  have e := someS h0
  subst e
  refine Qn.keep [4] (S' := [(4, .pointer (some ⟨b2, 0, none⟩))]) (by kernel_rfl) ?_
  exact post_ret (v := .agg (cA (Value.int .u8) y7).toArray) (fun a ha => RunRes.run (vs := [.agg (cA (Value.int .u8) y7).toArray]) (.cell (t := 4) (T := 23) (ad := ⟨b2, 0, none⟩) (by kernel_rfl) hL9 .nil) ha (by kernel_rfl)) ⟨rfl, hl8, hI⟩
end Go.Cen
