/- That the machine computes these: walks, printed by a program of ours. -/
import Derived.Test.YthdoklobbcedcaaPq
import Derived.Test.YthdoklobbcedcaaWq0
set_option linter.unusedVariables false
set_option linter.unusedSimpArgs false
namespace Go.Cen
set_option maxRecDepth 100000 in
set_option maxHeartbeats 4000000 in
/-- slices.insertionSortCmpFunc[int] -/
theorem c70_2 (w0 w : World) (Z : Hp) (A : HP) (A_a0 : Option Addr) (c_a0 : Nat) (a0 : (List Int)) (a1 : Int) (a2 : Int) (b_a3_c0 : Nat) (hz_a3_c0 : Z b_a3_c0 = some (.cells ([.func (.func 52) #[] #[]]).toArray 64 (0, 0))) (b_a3_c1 : Nat) (A_a3_c1_v : Option Addr) (c_a3_c1_v : Nat) (a3_c1_v : (List PoolUse)) (hr_a3_c1_v : RdS Z c_PoolUse 5 A_a3_c1_v c_a3_c1_v a3_c1_v) (hz_a3_c1 : Z b_a3_c1 = some (.cells ([.slice A_a3_c1_v a3_c1_v.length c_a3_c1_v]).toArray 35 (0, 0))) (hI : Inv w0 Z w (star (ownS 3 (cI .i64) 1 A_a0 c_a0 a0) A)) (r : (List Int)) (h0 : slices_insertionSortCmpFunc' a0 a1 a2 a3_c1_v = some r) :
    Calls prog 70 #[.slice A_a0 a0.length c_a0, .int .i64 a1, .int .i64 a2, .func (.func 62) #[] #[.pointer (some ⟨b_a3_c0, 0, none⟩), .pointer (some ⟨b_a3_c1, 0, none⟩)]] w (fun e w' => e = .returned (.tuple #[]) ∧ r.length = a0.length ∧ Inv w0 Z w' (star (ownS 3 (cI .i64) 1 A_a0 c_a0 r) A)) := by
  refine calls_intro (args := [.slice A_a0 a0.length c_a0, .int .i64 a1, .int .i64 a2, .func (.func 62) #[] #[.pointer (some ⟨b_a3_c0, 0, none⟩), .pointer (some ⟨b_a3_c1, 0, none⟩)]]) (fn := Go.Proofs.Try.f70) 53 Go.Proofs.Try.func70 (by rfl) Go.Proofs.Try.ntmps70 (by kernel_rfl) ?_
  unfold slices_insertionSortCmpFunc' at h0
  refine CodT.seq ?_
  refine CodT.regionL [0, 1, 2] (by kernel_rfl) ?_
  refine OpsT.pures (r := []) [0, 1, 2] [0, 1, 2, 3, 8] (S' := [(0, .slice A_a0 a0.length c_a0), (1, .int .i64 a1), (2, .int .i64 a2), (3, .func (.func 62) #[] #[.pointer (some ⟨b_a3_c0, 0, none⟩), .pointer (some ⟨b_a3_c1, 0, none⟩)]), (8, .int .i64 (wi64 (a1 + 1)))]) (by kernel_rfl) ?_
  refine OpsT.done ?_
  refine Qn.then ?_
  obtain ⟨r1, h1, h0⟩ := bindS h0
  refine CodT.meet1 (fun a w => ∃ (x1 : (List Int)), x1 = r1 ∧ Fr 53 [] a ∧ Inv w0 Z w (star (ownS 3 (cI .i64) 1 A_a0 c_a0 x1) A)) ?_ ?_
  ·
    refine CodT.block ?_
    refine (fun a ha => wp_loopN (fun k a w => ∃ (x2 : (List Int)) (x6 : Int), slices_insertionSortCmpFunc'.l0 a2 a1 a3_c1_v k x2 x6 = some r1 ∧ Fr 53 [(0, .slice A_a0 x2.length c_a0), (1, .int .i64 a1), (2, .int .i64 a2), (3, .func (.func 62) #[] #[.pointer (some ⟨b_a3_c0, 0, none⟩), .pointer (some ⟨b_a3_c1, 0, none⟩)]), (8, .int .i64 x6)] a ∧ Inv w0 Z w (star (ownS 3 (cI .i64) 1 A_a0 c_a0 x2) A)) ?_ FU a w ⟨a0, wi64 (a1 + 1), h1, ha.keep [0, 1, 2, 3, 8] (by kernel_rfl), hI⟩)
    clear h1 hI
    rintro k a w ⟨x2, x6, h1, ha, hI⟩
    rcases k with _ | k
    · cases h1
    simp only [slices_insertionSortCmpFunc'.l0] at h1
    refine CodT.of ?_ ha
    refine CodT.seq ?_
    refine CodT.seq ?_
    refine CodT.regionL [0, 1, 2] (by kernel_rfl) ?_
    refine OpsT.pures (r := []) [0, 1, 2] [0, 1, 2, 3, 8, 14] (S' := [(0, .slice A_a0 x2.length c_a0), (1, .int .i64 a1), (2, .int .i64 a2), (3, .func (.func 62) #[] #[.pointer (some ⟨b_a3_c0, 0, none⟩), .pointer (some ⟨b_a3_c1, 0, none⟩)]), (8, .int .i64 x6), (14, .bool (decide (x6 < a2)))]) (by kernel_rfl) ?_
    refine OpsT.done ?_
    refine Qn.then ?_
    by_cases hb7 : (decide (x6 < a2)) = true
    · rw [if_pos hb7] at h1
      refine CodT.yes' (b := decide (x6 < a2)) (by kernel_rfl) hb7 ?_
      refine CodT.skip ?_
      refine Qn.then ?_
      refine CodT.seq ?_
      refine CodT.block ?_
      refine CodT.seq ?_
      refine CodT.regionL [0, 1] (by kernel_rfl) ?_
      refine OpsT.pures (r := []) [0, 1] [0, 1, 2, 3, 8, 9] (S' := [(0, .slice A_a0 x2.length c_a0), (1, .int .i64 a1), (2, .int .i64 a2), (3, .func (.func 62) #[] #[.pointer (some ⟨b_a3_c0, 0, none⟩), .pointer (some ⟨b_a3_c1, 0, none⟩)]), (8, .int .i64 x6), (9, .int .i64 x6)]) (by kernel_rfl) ?_
      refine OpsT.done ?_
      refine Qn.then ?_
      obtain ⟨r2, h2, h1⟩ := bindS h1
      refine CodT.meet1 (fun a w => ∃ (x8 : (List Int)), x8 = r2 ∧ Fr 53 [(0, .slice A_a0 x8.length c_a0), (1, .int .i64 a1), (2, .int .i64 a2), (3, .func (.func 62) #[] #[.pointer (some ⟨b_a3_c0, 0, none⟩), .pointer (some ⟨b_a3_c1, 0, none⟩)]), (8, .int .i64 x6)] a ∧ Inv w0 Z w (star (ownS 3 (cI .i64) 1 A_a0 c_a0 x8) A)) ?_ ?_
      ·
        refine CodT.block ?_
        refine (fun a ha => wp_loopN (fun k a w => ∃ (x12 : (List Int)) (x16 : Int), slices_insertionSortCmpFunc'.l1 a1 a3_c1_v k x12 x16 = some r2 ∧ Fr 53 [(0, .slice A_a0 x12.length c_a0), (1, .int .i64 a1), (2, .int .i64 a2), (3, .func (.func 62) #[] #[.pointer (some ⟨b_a3_c0, 0, none⟩), .pointer (some ⟨b_a3_c1, 0, none⟩)]), (8, .int .i64 x6), (9, .int .i64 x16)] a ∧ Inv w0 Z w (star (ownS 3 (cI .i64) 1 A_a0 c_a0 x12) A)) ?_ FU a w ⟨x2, x6, h2, ha.keep [0, 1, 2, 3, 8, 9] (by kernel_rfl), hI⟩)
        clear h2 hI
        rintro k a w ⟨x12, x16, h2, ha, hI⟩
        rcases k with _ | k
        · cases h2
        simp only [slices_insertionSortCmpFunc'.l1] at h2
        refine CodT.of ?_ ha
        refine CodT.seq ?_
        obtain ⟨r3, h3, h2⟩ := bindS h2
        refine CodT.meet (fun a w => ∃ (x17 : Bool), x17 = r3 ∧ Fr 53 [(0, .slice A_a0 x12.length c_a0), (1, .int .i64 a1), (2, .int .i64 a2), (3, .func (.func 62) #[] #[.pointer (some ⟨b_a3_c0, 0, none⟩), .pointer (some ⟨b_a3_c1, 0, none⟩)]), (8, .int .i64 x6), (9, .int .i64 x16), (34, .bool x17)] a ∧ Inv w0 Z w (star (ownS 3 (cI .i64) 1 A_a0 c_a0 x12) A)) ?_ ?_
        ·
          refine CodT.drawI (n := 17) [] (by kernel_rfl) (by kernel_rfl) hI ?_
          intro w hI
          refine GmT.p' 0 18 (.int .i64 x16) (by kernel_rfl) (by kernel_rfl) ?_
          refine GmT.p' 1 19 (.int .i64 a1) (by kernel_rfl) (by kernel_rfl) ?_
          refine GmT.p' 2 20 (.bool (decide (x16 > a1))) (by kernel_rfl) (by kernel_rfl) ?_
          refine GmT.p' 3 21 (.bool (decide (x16 > a1))) (by kernel_rfl) (by kernel_rfl) ?_
          by_cases hb18 : (decide (x16 > a1)) = true
          · rw [if_pos hb18] at h3
            refine GmT.keep [0, 1, 2, 3, 8, 9, 21] (S' := [(0, .slice A_a0 x12.length c_a0), (1, .int .i64 a1), (2, .int .i64 a2), (3, .func (.func 62) #[] #[.pointer (some ⟨b_a3_c0, 0, none⟩), .pointer (some ⟨b_a3_c1, 0, none⟩)]), (8, .int .i64 x6), (9, .int .i64 x16), (21, .bool true)]) (by simp only [hb18]; kernel_rfl) ?_
            refine GmT.p' 4 22 (.func (.func 62) #[] #[.pointer (some ⟨b_a3_c0, 0, none⟩), .pointer (some ⟨b_a3_c1, 0, none⟩)]) (by kernel_rfl) (by kernel_rfl) ?_
            refine GmT.p' 5 23 (.slice A_a0 x12.length c_a0) (by kernel_rfl) (by kernel_rfl) ?_
            refine GmT.p' 6 24 (.int .i64 x16) (by kernel_rfl) (by kernel_rfl) ?_
            refine GmT.p' 9 27 (.slice A_a0 x12.length c_a0) (by kernel_rfl) (by kernel_rfl) ?_
            refine GmT.p' 10 28 (.int .i64 x16) (by kernel_rfl) (by kernel_rfl) ?_
            refine GmT.p' 11 29 (.int .i64 (wi64 (x16 - 1))) (by kernel_rfl) (by kernel_rfl) ?_
            obtain ⟨hg19, h3⟩ := guardS h3
            obtain ⟨g20, hA21, hr22, hl23⟩ := ownS_get hI hg19.1 hg19.2
            refine GmT.r (i := 7) 2 (by kernel_rfl) (by kernel_rfl) (Yl.indexSlice (d := 25) (T := 40) (cc := c_a0) (k := .i64) (j := x16) (g := g20) (o := 0) (by kernel_rfl) Go.Proofs.Try.underlying40 ty3 hA21 hg19.1 hg19.2) hI ?_
            refine GmT.r (i := 8) 2 (by kernel_rfl) (by kernel_rfl) (Yl.load (d := 26) (T := 3) (v := .int .i64 (gt x12 x16)) (by kernel_rfl) (ldR ty3 (v := .int .i64 (gt x12 x16)) 0 (fun w hC => hr22 w0 w _ hC) (by kernel_rfl))) hI ?_
            obtain ⟨hg24, h3⟩ := guardS h3
            obtain ⟨g25, hA26, hr27, hl28⟩ := ownS_get hI hg24.1 hg24.2
            refine GmT.r (i := 12) 2 (by kernel_rfl) (by kernel_rfl) (Yl.indexSlice (d := 30) (T := 40) (cc := c_a0) (k := .i64) (j := wi64 (x16 - 1)) (g := g25) (o := 0) (by kernel_rfl) Go.Proofs.Try.underlying40 ty3 hA26 hg24.1 hg24.2) hI ?_
            refine GmT.r (i := 13) 2 (by kernel_rfl) (by kernel_rfl) (Yl.load (d := 31) (T := 3) (v := .int .i64 (gt x12 (wi64 (x16 - 1)))) (by kernel_rfl) (ldR ty3 (v := .int .i64 (gt x12 (wi64 (x16 - 1)))) 0 (fun w hC => hr27 w0 w _ hC) (by kernel_rfl))) hI ?_
            obtain ⟨y30, hc29, h3⟩ := bindS h3
            try dsimp only at h3
            refine GmT.o (i := 14) (by kernel_rfl) (Does.call (d := some 32) (n := 62) (vs := [.int .i64 (gt x12 x16), .int .i64 (gt x12 (wi64 (x16 - 1))), .pointer (some ⟨b_a3_c0, 0, none⟩), .pointer (some ⟨b_a3_c1, 0, none⟩)]) (by kernel_rfl) en62 (c62_2 w0 w _ _ hI (gt x12 x16) (gt x12 (wi64 (x16 - 1))) b_a3_c0 hz_a3_c0 b_a3_c1 A_a3_c1_v c_a3_c1_v a3_c1_v hr_a3_c1_v hz_a3_c1 _ hc29) ?_)
            rintro e w ⟨rfl, hI⟩
            refine ⟨_, rfl, ?_⟩
            refine ⟨fun _ _ => hI, ?_⟩
            refine GmT.p' 15 33 (.bool (decide (y30 < 0))) (by kernel_rfl) (by kernel_rfl) ?_
            refine GmT.p' 16 34 (.bool (decide (y30 < 0))) (by kernel_rfl) (by kernel_rfl) ?_
            refine GmT.done (by kernel_rfl) ?_
            have e := someS h3
            subst e
            exact Qn.thenJ fun a ha => ⟨decide (y30 < 0), rfl, ha.keep [0, 1, 2, 3, 8, 9, 34] (by kernel_rfl), hI⟩
          · rw [if_neg hb18] at h3
            have hb18 : (decide (x16 > a1)) = false := by simpa using hb18
            refine GmT.keep [0, 1, 2, 3, 8, 9, 21] (S' := [(0, .slice A_a0 x12.length c_a0), (1, .int .i64 a1), (2, .int .i64 a2), (3, .func (.func 62) #[] #[.pointer (some ⟨b_a3_c0, 0, none⟩), .pointer (some ⟨b_a3_c1, 0, none⟩)]), (8, .int .i64 x6), (9, .int .i64 x16), (21, .bool false)]) (by simp only [hb18]; kernel_rfl) ?_
            refine GmT.p' 4 22 (undef) (by kernel_rfl) (by kernel_rfl) ?_
            refine GmT.p' 5 23 (undef) (by kernel_rfl) (by kernel_rfl) ?_
            refine GmT.p' 6 24 (undef) (by kernel_rfl) (by kernel_rfl) ?_
            refine GmT.p' 7 25 (undef) (by kernel_rfl) (by kernel_rfl) ?_
            refine GmT.p' 8 26 (undef) (by kernel_rfl) (by kernel_rfl) ?_
            refine GmT.p' 9 27 (undef) (by kernel_rfl) (by kernel_rfl) ?_
            refine GmT.p' 10 28 (undef) (by kernel_rfl) (by kernel_rfl) ?_
            refine GmT.p' 11 29 (undef) (by kernel_rfl) (by kernel_rfl) ?_
            refine GmT.p' 12 30 (undef) (by kernel_rfl) (by kernel_rfl) ?_
            refine GmT.p' 13 31 (undef) (by kernel_rfl) (by kernel_rfl) ?_
            refine GmT.p' 14 32 (undef) (by kernel_rfl) (by kernel_rfl) ?_
            refine GmT.p' 15 33 (undef) (by kernel_rfl) (by kernel_rfl) ?_
            refine GmT.p' 16 34 (.bool false) (by kernel_rfl) (by kernel_rfl) ?_
            refine GmT.done (by kernel_rfl) ?_
            have e := someS h3
            subst e
            exact Qn.thenJ fun a ha => ⟨false, rfl, ha.keep [0, 1, 2, 3, 8, 9, 34] (by kernel_rfl), hI⟩
        ·
          rintro a w ⟨x17, rfl, ha, hI⟩
          try dsimp only at h2
          refine CodT.of ?_ ha
          by_cases hb31 : x17 = true
          · rw [if_pos hb31] at h2
            refine CodT.yes' (b := x17) (by kernel_rfl) hb31 ?_
            refine CodT.skip ?_
            refine Qn.then ?_
            refine CodT.seq ?_
            refine CodT.block ?_
            refine CodT.drawI (n := 18) [15, 17] (by kernel_rfl) (by kernel_rfl) hI ?_
            intro w hI
            refine GmT.p' 0 37 (.slice A_a0 x12.length c_a0) (by kernel_rfl) (by kernel_rfl) ?_
            refine GmT.p' 1 38 (.int .i64 x16) (by kernel_rfl) (by kernel_rfl) ?_
            refine GmT.p' 2 39 (.slice A_a0 x12.length c_a0) (by kernel_rfl) (by kernel_rfl) ?_
            refine GmT.p' 3 40 (.int .i64 x16) (by kernel_rfl) (by kernel_rfl) ?_
            refine GmT.p' 4 41 (.int .i64 (wi64 (x16 - 1))) (by kernel_rfl) (by kernel_rfl) ?_
            refine GmT.p' 5 42 (.slice A_a0 x12.length c_a0) (by kernel_rfl) (by kernel_rfl) ?_
            refine GmT.p' 6 43 (.int .i64 x16) (by kernel_rfl) (by kernel_rfl) ?_
            refine GmT.p' 7 44 (.int .i64 (wi64 (x16 - 1))) (by kernel_rfl) (by kernel_rfl) ?_
            refine GmT.p' 10 47 (.slice A_a0 x12.length c_a0) (by kernel_rfl) (by kernel_rfl) ?_
            refine GmT.p' 11 48 (.int .i64 x16) (by kernel_rfl) (by kernel_rfl) ?_
            obtain ⟨hg32, h2⟩ := guardS h2
            obtain ⟨g33, hA34, hr35, hl36⟩ := ownS_get hI hg32.1 hg32.2
            refine GmT.r (i := 8) 2 (by kernel_rfl) (by kernel_rfl) (Yl.indexSlice (d := 45) (T := 40) (cc := c_a0) (k := .i64) (j := wi64 (x16 - 1)) (g := g33) (o := 0) (by kernel_rfl) Go.Proofs.Try.underlying40 ty3 hA34 hg32.1 hg32.2) hI ?_
            refine GmT.r (i := 9) 2 (by kernel_rfl) (by kernel_rfl) (Yl.load (d := 46) (T := 3) (v := .int .i64 (gt x12 (wi64 (x16 - 1)))) (by kernel_rfl) (ldR ty3 (v := .int .i64 (gt x12 (wi64 (x16 - 1)))) 0 (fun w hC => hr35 w0 w _ hC) (by kernel_rfl))) hI ?_
            obtain ⟨hg37, h2⟩ := guardS h2
            obtain ⟨g38, hA39, hr40, hl41⟩ := ownS_get hI hg37.1 hg37.2
            refine GmT.r (i := 12) 3 (by kernel_rfl) (by kernel_rfl) (Yl.indexSlice (d := 49) (T := 40) (cc := c_a0) (k := .i64) (j := x16) (g := g38) (o := 0) (by kernel_rfl) Go.Proofs.Try.underlying40 ty3 hA39 hg37.1 hg37.2) hI ?_
            refine GmT.r (i := 13) 2 (by kernel_rfl) (by kernel_rfl) (Yl.load (d := 50) (T := 3) (v := .int .i64 (gt x12 x16)) (by kernel_rfl) (ldR ty3 (v := .int .i64 (gt x12 x16)) 0 (fun w hC => hr40 w0 w _ hC) (by kernel_rfl))) hI ?_
            obtain ⟨hg42, h2⟩ := guardS h2
            obtain ⟨g43, hA44, hr45, hl46⟩ := ownS_get hI hg42.1 hg42.2
            refine GmT.r (i := 14) 2 (by kernel_rfl) (by kernel_rfl) (Yl.indexSlice (d := 51) (T := 40) (cc := c_a0) (k := .i64) (j := x16) (g := g43) (o := 0) (by kernel_rfl) Go.Proofs.Try.underlying40 ty3 hA44 hg42.1 hg42.2) hI ?_
            refine GmT.o (i := 15) (by kernel_rfl) (Does.storeElem (T := 3) (j := x16) (k := 0) (v := .int .i64 (gt x12 (wi64 (x16 - 1)))) (vs := [.int .i64 (gt x12 (wi64 (x16 - 1)))]) (gt x12 (wi64 (x16 - 1))) (by kernel_rfl) ty3 hA44 hI hg42.1 hg42.2 (by kernel_rfl) (by kernel_rfl) (by kernel_rfl) (by kernel_rfl) (by kernel_rfl) ?_)
            intro w hI
            refine ⟨fun h => absurd h (by decide), ?_⟩
            refine GmT.keep [0, 1, 2, 3, 8, 9, 34, 37, 38, 39, 40, 41, 42, 43, 44, 46, 47, 48, 50] (S' := [(0, .slice A_a0 ((st x12 x16 (gt x12 (wi64 (x16 - 1)))).length) c_a0), (1, .int .i64 a1), (2, .int .i64 a2), (3, .func (.func 62) #[] #[.pointer (some ⟨b_a3_c0, 0, none⟩), .pointer (some ⟨b_a3_c1, 0, none⟩)]), (8, .int .i64 x6), (9, .int .i64 x16), (34, .bool x17), (37, .slice A_a0 ((st x12 x16 (gt x12 (wi64 (x16 - 1)))).length) c_a0), (38, .int .i64 x16), (39, .slice A_a0 ((st x12 x16 (gt x12 (wi64 (x16 - 1)))).length) c_a0), (40, .int .i64 x16), (41, .int .i64 (wi64 (x16 - 1))), (42, .slice A_a0 ((st x12 x16 (gt x12 (wi64 (x16 - 1)))).length) c_a0), (43, .int .i64 x16), (44, .int .i64 (wi64 (x16 - 1))), (46, .int .i64 (gt x12 (wi64 (x16 - 1)))), (47, .slice A_a0 ((st x12 x16 (gt x12 (wi64 (x16 - 1)))).length) c_a0), (48, .int .i64 x16), (50, .int .i64 (gt x12 x16))]) (by simp only [st_length]; kernel_rfl) ?_
            obtain ⟨hg47, h2⟩ := guardS h2
            obtain ⟨g48, hA49, hr50, hl51⟩ := ownS_get hI hg47.1 hg47.2
            refine GmT.o (i := 16) (by kernel_rfl) (Does.yi (Yl.indexSlice (d := 52) (T := 40) (cc := c_a0) (k := .i64) (j := wi64 (x16 - 1)) (g := g48) (o := 0) (by kernel_rfl) Go.Proofs.Try.underlying40 ty3 hA49 hg47.1 hg47.2) hI ?_)
            refine ⟨fun _ h => h, ?_⟩
            refine GmT.o (i := 17) (by kernel_rfl) (Does.storeElem (T := 3) (j := wi64 (x16 - 1)) (k := 0) (v := .int .i64 (gt x12 x16)) (vs := [.int .i64 (gt x12 x16)]) (gt x12 x16) (by kernel_rfl) ty3 hA49 hI hg47.1 hg47.2 (by kernel_rfl) (by kernel_rfl) (by kernel_rfl) (by kernel_rfl) (by kernel_rfl) ?_)
            intro w hI
            refine ⟨fun h => absurd h (by decide), ?_⟩
            refine GmT.keep [0, 1, 2, 3, 8, 9, 34, 37, 38, 39, 40, 41, 42, 43, 44, 46, 47, 48, 50] (S' := [(0, .slice A_a0 ((st (st x12 x16 (gt x12 (wi64 (x16 - 1)))) (wi64 (x16 - 1)) (gt x12 x16)).length) c_a0), (1, .int .i64 a1), (2, .int .i64 a2), (3, .func (.func 62) #[] #[.pointer (some ⟨b_a3_c0, 0, none⟩), .pointer (some ⟨b_a3_c1, 0, none⟩)]), (8, .int .i64 x6), (9, .int .i64 x16), (34, .bool x17), (37, .slice A_a0 ((st (st x12 x16 (gt x12 (wi64 (x16 - 1)))) (wi64 (x16 - 1)) (gt x12 x16)).length) c_a0), (38, .int .i64 x16), (39, .slice A_a0 ((st (st x12 x16 (gt x12 (wi64 (x16 - 1)))) (wi64 (x16 - 1)) (gt x12 x16)).length) c_a0), (40, .int .i64 x16), (41, .int .i64 (wi64 (x16 - 1))), (42, .slice A_a0 ((st (st x12 x16 (gt x12 (wi64 (x16 - 1)))) (wi64 (x16 - 1)) (gt x12 x16)).length) c_a0), (43, .int .i64 x16), (44, .int .i64 (wi64 (x16 - 1))), (46, .int .i64 (gt x12 (wi64 (x16 - 1)))), (47, .slice A_a0 ((st (st x12 x16 (gt x12 (wi64 (x16 - 1)))) (wi64 (x16 - 1)) (gt x12 x16)).length) c_a0), (48, .int .i64 x16), (50, .int .i64 (gt x12 x16))]) (by simp only [st_length]; kernel_rfl) ?_
            refine GmT.done (by kernel_rfl) ?_
            refine Qn.block_normal ?_
            refine Qn.then ?_
            refine CodT.regionL [0, 1, 2] (by kernel_rfl) ?_
            refine OpsT.pures (r := []) [0, 1, 2] [0, 1, 2, 3, 8, 9] (S' := [(0, .slice A_a0 ((st (st x12 x16 (gt x12 (wi64 (x16 - 1)))) (wi64 (x16 - 1)) (gt x12 x16)).length) c_a0), (1, .int .i64 a1), (2, .int .i64 a2), (3, .func (.func 62) #[] #[.pointer (some ⟨b_a3_c0, 0, none⟩), .pointer (some ⟨b_a3_c1, 0, none⟩)]), (8, .int .i64 x6), (9, .int .i64 (wi64 (x16 - 1)))]) (by kernel_rfl) ?_
            refine OpsT.done ?_
            exact Qn.thenJ fun a ha => ⟨k, Nat.lt_succ_self k, st (st x12 x16 (gt x12 (wi64 (x16 - 1)))) (wi64 (x16 - 1)) (gt x12 x16), wi64 (x16 - 1), h2, ha.keep [0, 1, 2, 3, 8, 9] (by kernel_rfl), hI⟩
          · rw [if_neg hb31] at h2
            refine CodT.no' (b := x17) (by kernel_rfl) (by simpa using hb31) ?_
            refine CodT.exit ?_
            refine Qn.exit_then ?_
            refine Qn.exit_then ?_
            refine Qn.block ?_
            have e := someS h2
            subst e
            exact Qn.thenJ fun a ha => ⟨x12, rfl, ha.keep [0, 1, 2, 3, 8] (by kernel_rfl), hI⟩
      ·
        rintro a w ⟨x8, rfl, ha, hI⟩
        try dsimp only at h1
        refine Qn.of ?_ ha
        refine Qn.block_normal ?_
        refine Qn.then ?_
        refine CodT.regionL [0, 1, 2] (by kernel_rfl) ?_
        refine OpsT.pures (r := []) [0, 1, 2] [0, 1, 2, 3, 8] (S' := [(0, .slice A_a0 x8.length c_a0), (1, .int .i64 a1), (2, .int .i64 a2), (3, .func (.func 62) #[] #[.pointer (some ⟨b_a3_c0, 0, none⟩), .pointer (some ⟨b_a3_c1, 0, none⟩)]), (8, .int .i64 (wi64 (x6 + 1)))]) (by kernel_rfl) ?_
        refine OpsT.done ?_
        exact Qn.thenJ fun a ha => ⟨k, Nat.lt_succ_self k, x8, wi64 (x6 + 1), h1, ha.keep [0, 1, 2, 3, 8] (by kernel_rfl), hI⟩
    · rw [if_neg hb7] at h1
      refine CodT.no' (b := decide (x6 < a2)) (by kernel_rfl) (by simpa using hb7) ?_
      refine CodT.exit ?_
      refine Qn.exit_then ?_
      refine Qn.exit_then ?_
      refine Qn.block ?_
      have e := someS h1
      subst e
      exact Qn.thenJ fun a ha => ⟨x2, rfl, ha.keep [] (by kernel_rfl), hI⟩
  ·
    rintro a w ⟨x1, rfl, ha, hI⟩
    try dsimp only at h0
    refine Qn.of ?_ ha
    obtain ⟨hg52, h0⟩ := guardS h0
    have e := someS h0
    subst e
    refine Qn.keep [] (S' := []) (by kernel_rfl) ?_
    exact post_normal (v := .tuple #[]) (fun a ha => RunRes.run (vs := []) .nil ha (by kernel_rfl)) ⟨rfl, hg52, hI⟩
set_option maxRecDepth 100000 in
set_option maxHeartbeats 4000000 in
/-- slices.swapRangeCmpFunc[int] -/
theorem c73_2 (w0 w : World) (Z : Hp) (A : HP) (A_a0 : Option Addr) (c_a0 : Nat) (a0 : (List Int)) (a1 : Int) (a2 : Int) (a3 : Int) (b_a4_c0 : Nat) (hz_a4_c0 : Z b_a4_c0 = some (.cells ([.func (.func 52) #[] #[]]).toArray 64 (0, 0))) (b_a4_c1 : Nat) (A_a4_c1_v : Option Addr) (c_a4_c1_v : Nat) (a4_c1_v : (List PoolUse)) (hr_a4_c1_v : RdS Z c_PoolUse 5 A_a4_c1_v c_a4_c1_v a4_c1_v) (hz_a4_c1 : Z b_a4_c1 = some (.cells ([.slice A_a4_c1_v a4_c1_v.length c_a4_c1_v]).toArray 35 (0, 0))) (hI : Inv w0 Z w (star (ownS 3 (cI .i64) 1 A_a0 c_a0 a0) A)) (r : (List Int)) (h0 : slices_swapRangeCmpFunc' a0 a1 a2 a3 a4_c1_v = some r) :
    Calls prog 73 #[.slice A_a0 a0.length c_a0, .int .i64 a1, .int .i64 a2, .int .i64 a3, .func (.func 62) #[] #[.pointer (some ⟨b_a4_c0, 0, none⟩), .pointer (some ⟨b_a4_c1, 0, none⟩)]] w (fun e w' => e = .returned (.tuple #[]) ∧ r.length = a0.length ∧ Inv w0 Z w' (star (ownS 3 (cI .i64) 1 A_a0 c_a0 r) A)) := by
  refine calls_intro (args := [.slice A_a0 a0.length c_a0, .int .i64 a1, .int .i64 a2, .int .i64 a3, .func (.func 62) #[] #[.pointer (some ⟨b_a4_c0, 0, none⟩), .pointer (some ⟨b_a4_c1, 0, none⟩)]]) (fn := Go.Proofs.Try.f73) 38 Go.Proofs.Try.func73 (by rfl) Go.Proofs.Try.ntmps73 (by kernel_rfl) ?_
  unfold slices_swapRangeCmpFunc' at h0
  refine CodT.seq ?_
  refine CodT.regionL [0] (by kernel_rfl) ?_
  refine OpsT.pures (r := []) [0] [0, 1, 2, 3, 10] (S' := [(0, .slice A_a0 a0.length c_a0), (1, .int .i64 a1), (2, .int .i64 a2), (3, .int .i64 a3), (10, .int .i64 0)]) (by kernel_rfl) ?_
  refine OpsT.done ?_
  refine Qn.then ?_
  obtain ⟨r1, h1, h0⟩ := bindS h0
  refine CodT.meet1 (fun a w => ∃ (x1 : (List Int)), x1 = r1 ∧ Fr 38 [] a ∧ Inv w0 Z w (star (ownS 3 (cI .i64) 1 A_a0 c_a0 x1) A)) ?_ ?_
  ·
    refine CodT.block ?_
    refine (fun a ha => wp_loopN (fun k a w => ∃ (x2 : (List Int)) (x6 : Int), slices_swapRangeCmpFunc'.l0 a3 a2 a1 k x2 x6 = some r1 ∧ Fr 38 [(0, .slice A_a0 x2.length c_a0), (1, .int .i64 a1), (2, .int .i64 a2), (3, .int .i64 a3), (10, .int .i64 x6)] a ∧ Inv w0 Z w (star (ownS 3 (cI .i64) 1 A_a0 c_a0 x2) A)) ?_ FU a w ⟨a0, 0, h1, ha.keep [0, 1, 2, 3, 10] (by kernel_rfl), hI⟩)
    clear h1 hI
    rintro k a w ⟨x2, x6, h1, ha, hI⟩
    rcases k with _ | k
    · cases h1
    simp only [slices_swapRangeCmpFunc'.l0] at h1
    refine CodT.of ?_ ha
    refine CodT.seq ?_
    refine CodT.seq ?_
    refine CodT.regionL [0, 1, 2] (by kernel_rfl) ?_
    refine OpsT.pures (r := []) [0, 1, 2] [0, 1, 2, 3, 10, 13] (S' := [(0, .slice A_a0 x2.length c_a0), (1, .int .i64 a1), (2, .int .i64 a2), (3, .int .i64 a3), (10, .int .i64 x6), (13, .bool (decide (x6 < a3)))]) (by kernel_rfl) ?_
    refine OpsT.done ?_
    refine Qn.then ?_
    by_cases hb7 : (decide (x6 < a3)) = true
    · rw [if_pos hb7] at h1
      refine CodT.yes' (b := decide (x6 < a3)) (by kernel_rfl) hb7 ?_
      refine CodT.skip ?_
      refine Qn.then ?_
      refine CodT.seq ?_
      refine CodT.block ?_
      refine CodT.drawI (n := 24) [21, 23] (by kernel_rfl) (by kernel_rfl) hI ?_
      intro w hI
      refine GmT.p' 0 16 (.slice A_a0 x2.length c_a0) (by kernel_rfl) (by kernel_rfl) ?_
      refine GmT.p' 1 17 (.int .i64 a1) (by kernel_rfl) (by kernel_rfl) ?_
      refine GmT.p' 2 18 (.int .i64 x6) (by kernel_rfl) (by kernel_rfl) ?_
      refine GmT.p' 3 19 (.int .i64 (wi64 (a1 + x6))) (by kernel_rfl) (by kernel_rfl) ?_
      refine GmT.p' 4 20 (.slice A_a0 x2.length c_a0) (by kernel_rfl) (by kernel_rfl) ?_
      refine GmT.p' 5 21 (.int .i64 a2) (by kernel_rfl) (by kernel_rfl) ?_
      refine GmT.p' 6 22 (.int .i64 x6) (by kernel_rfl) (by kernel_rfl) ?_
      refine GmT.p' 7 23 (.int .i64 (wi64 (a2 + x6))) (by kernel_rfl) (by kernel_rfl) ?_
      refine GmT.p' 8 24 (.slice A_a0 x2.length c_a0) (by kernel_rfl) (by kernel_rfl) ?_
      refine GmT.p' 9 25 (.int .i64 a2) (by kernel_rfl) (by kernel_rfl) ?_
      refine GmT.p' 10 26 (.int .i64 x6) (by kernel_rfl) (by kernel_rfl) ?_
      refine GmT.p' 11 27 (.int .i64 (wi64 (a2 + x6))) (by kernel_rfl) (by kernel_rfl) ?_
      refine GmT.p' 14 30 (.slice A_a0 x2.length c_a0) (by kernel_rfl) (by kernel_rfl) ?_
      refine GmT.p' 15 31 (.int .i64 a1) (by kernel_rfl) (by kernel_rfl) ?_
      refine GmT.p' 16 32 (.int .i64 x6) (by kernel_rfl) (by kernel_rfl) ?_
      refine GmT.p' 17 33 (.int .i64 (wi64 (a1 + x6))) (by kernel_rfl) (by kernel_rfl) ?_
      obtain ⟨hg8, h1⟩ := guardS h1
      obtain ⟨g9, hA10, hr11, hl12⟩ := ownS_get hI hg8.1 hg8.2
      refine GmT.r (i := 12) 2 (by kernel_rfl) (by kernel_rfl) (Yl.indexSlice (d := 28) (T := 40) (cc := c_a0) (k := .i64) (j := wi64 (a2 + x6)) (g := g9) (o := 0) (by kernel_rfl) Go.Proofs.Try.underlying40 ty3 hA10 hg8.1 hg8.2) hI ?_
      refine GmT.r (i := 13) 2 (by kernel_rfl) (by kernel_rfl) (Yl.load (d := 29) (T := 3) (v := .int .i64 (gt x2 (wi64 (a2 + x6)))) (by kernel_rfl) (ldR ty3 (v := .int .i64 (gt x2 (wi64 (a2 + x6)))) 0 (fun w hC => hr11 w0 w _ hC) (by kernel_rfl))) hI ?_
      obtain ⟨hg13, h1⟩ := guardS h1
      obtain ⟨g14, hA15, hr16, hl17⟩ := ownS_get hI hg13.1 hg13.2
      refine GmT.r (i := 18) 3 (by kernel_rfl) (by kernel_rfl) (Yl.indexSlice (d := 34) (T := 40) (cc := c_a0) (k := .i64) (j := wi64 (a1 + x6)) (g := g14) (o := 0) (by kernel_rfl) Go.Proofs.Try.underlying40 ty3 hA15 hg13.1 hg13.2) hI ?_
      refine GmT.r (i := 19) 2 (by kernel_rfl) (by kernel_rfl) (Yl.load (d := 35) (T := 3) (v := .int .i64 (gt x2 (wi64 (a1 + x6)))) (by kernel_rfl) (ldR ty3 (v := .int .i64 (gt x2 (wi64 (a1 + x6)))) 0 (fun w hC => hr16 w0 w _ hC) (by kernel_rfl))) hI ?_
      obtain ⟨hg18, h1⟩ := guardS h1
      obtain ⟨g19, hA20, hr21, hl22⟩ := ownS_get hI hg18.1 hg18.2
      refine GmT.r (i := 20) 2 (by kernel_rfl) (by kernel_rfl) (Yl.indexSlice (d := 36) (T := 40) (cc := c_a0) (k := .i64) (j := wi64 (a1 + x6)) (g := g19) (o := 0) (by kernel_rfl) Go.Proofs.Try.underlying40 ty3 hA20 hg18.1 hg18.2) hI ?_
      refine GmT.o (i := 21) (by kernel_rfl) (Does.storeElem (T := 3) (j := wi64 (a1 + x6)) (k := 0) (v := .int .i64 (gt x2 (wi64 (a2 + x6)))) (vs := [.int .i64 (gt x2 (wi64 (a2 + x6)))]) (gt x2 (wi64 (a2 + x6))) (by kernel_rfl) ty3 hA20 hI hg18.1 hg18.2 (by kernel_rfl) (by kernel_rfl) (by kernel_rfl) (by kernel_rfl) (by kernel_rfl) ?_)
      intro w hI
      refine ⟨fun h => absurd h (by decide), ?_⟩
      refine GmT.keep [0, 1, 2, 3, 10, 13, 16, 17, 18, 19, 20, 21, 22, 23, 24, 25, 26, 27, 29, 30, 31, 32, 33, 35] (S' := [(0, .slice A_a0 ((st x2 (wi64 (a1 + x6)) (gt x2 (wi64 (a2 + x6)))).length) c_a0), (1, .int .i64 a1), (2, .int .i64 a2), (3, .int .i64 a3), (10, .int .i64 x6), (13, .bool (decide (x6 < a3))), (16, .slice A_a0 ((st x2 (wi64 (a1 + x6)) (gt x2 (wi64 (a2 + x6)))).length) c_a0), (17, .int .i64 a1), (18, .int .i64 x6), (19, .int .i64 (wi64 (a1 + x6))), (20, .slice A_a0 ((st x2 (wi64 (a1 + x6)) (gt x2 (wi64 (a2 + x6)))).length) c_a0), (21, .int .i64 a2), (22, .int .i64 x6), (23, .int .i64 (wi64 (a2 + x6))), (24, .slice A_a0 ((st x2 (wi64 (a1 + x6)) (gt x2 (wi64 (a2 + x6)))).length) c_a0), (25, .int .i64 a2), (26, .int .i64 x6), (27, .int .i64 (wi64 (a2 + x6))), (29, .int .i64 (gt x2 (wi64 (a2 + x6)))), (30, .slice A_a0 ((st x2 (wi64 (a1 + x6)) (gt x2 (wi64 (a2 + x6)))).length) c_a0), (31, .int .i64 a1), (32, .int .i64 x6), (33, .int .i64 (wi64 (a1 + x6))), (35, .int .i64 (gt x2 (wi64 (a1 + x6))))]) (by simp only [st_length]; kernel_rfl) ?_
      obtain ⟨hg23, h1⟩ := guardS h1
      obtain ⟨g24, hA25, hr26, hl27⟩ := ownS_get hI hg23.1 hg23.2
      refine GmT.o (i := 22) (by kernel_rfl) (Does.yi (Yl.indexSlice (d := 37) (T := 40) (cc := c_a0) (k := .i64) (j := wi64 (a2 + x6)) (g := g24) (o := 0) (by kernel_rfl) Go.Proofs.Try.underlying40 ty3 hA25 hg23.1 hg23.2) hI ?_)
      refine ⟨fun _ h => h, ?_⟩
      refine GmT.o (i := 23) (by kernel_rfl) (Does.storeElem (T := 3) (j := wi64 (a2 + x6)) (k := 0) (v := .int .i64 (gt x2 (wi64 (a1 + x6)))) (vs := [.int .i64 (gt x2 (wi64 (a1 + x6)))]) (gt x2 (wi64 (a1 + x6))) (by kernel_rfl) ty3 hA25 hI hg23.1 hg23.2 (by kernel_rfl) (by kernel_rfl) (by kernel_rfl) (by kernel_rfl) (by kernel_rfl) ?_)
      intro w hI
      refine ⟨fun h => absurd h (by decide), ?_⟩
      refine GmT.keep [0, 1, 2, 3, 10, 13, 16, 17, 18, 19, 20, 21, 22, 23, 24, 25, 26, 27, 29, 30, 31, 32, 33, 35] (S' := [(0, .slice A_a0 ((st (st x2 (wi64 (a1 + x6)) (gt x2 (wi64 (a2 + x6)))) (wi64 (a2 + x6)) (gt x2 (wi64 (a1 + x6)))).length) c_a0), (1, .int .i64 a1), (2, .int .i64 a2), (3, .int .i64 a3), (10, .int .i64 x6), (13, .bool (decide (x6 < a3))), (16, .slice A_a0 ((st (st x2 (wi64 (a1 + x6)) (gt x2 (wi64 (a2 + x6)))) (wi64 (a2 + x6)) (gt x2 (wi64 (a1 + x6)))).length) c_a0), (17, .int .i64 a1), (18, .int .i64 x6), (19, .int .i64 (wi64 (a1 + x6))), (20, .slice A_a0 ((st (st x2 (wi64 (a1 + x6)) (gt x2 (wi64 (a2 + x6)))) (wi64 (a2 + x6)) (gt x2 (wi64 (a1 + x6)))).length) c_a0), (21, .int .i64 a2), (22, .int .i64 x6), (23, .int .i64 (wi64 (a2 + x6))), (24, .slice A_a0 ((st (st x2 (wi64 (a1 + x6)) (gt x2 (wi64 (a2 + x6)))) (wi64 (a2 + x6)) (gt x2 (wi64 (a1 + x6)))).length) c_a0), (25, .int .i64 a2), (26, .int .i64 x6), (27, .int .i64 (wi64 (a2 + x6))), (29, .int .i64 (gt x2 (wi64 (a2 + x6)))), (30, .slice A_a0 ((st (st x2 (wi64 (a1 + x6)) (gt x2 (wi64 (a2 + x6)))) (wi64 (a2 + x6)) (gt x2 (wi64 (a1 + x6)))).length) c_a0), (31, .int .i64 a1), (32, .int .i64 x6), (33, .int .i64 (wi64 (a1 + x6))), (35, .int .i64 (gt x2 (wi64 (a1 + x6))))]) (by simp only [st_length]; kernel_rfl) ?_
      refine GmT.done (by kernel_rfl) ?_
      refine Qn.block_normal ?_
      refine Qn.then ?_
      refine CodT.regionL [0, 1, 2] (by kernel_rfl) ?_
      refine OpsT.pures (r := []) [0, 1, 2] [0, 1, 2, 3, 10] (S' := [(0, .slice A_a0 ((st (st x2 (wi64 (a1 + x6)) (gt x2 (wi64 (a2 + x6)))) (wi64 (a2 + x6)) (gt x2 (wi64 (a1 + x6)))).length) c_a0), (1, .int .i64 a1), (2, .int .i64 a2), (3, .int .i64 a3), (10, .int .i64 (wi64 (x6 + 1)))]) (by kernel_rfl) ?_
      refine OpsT.done ?_
      exact Qn.thenJ fun a ha => ⟨k, Nat.lt_succ_self k, st (st x2 (wi64 (a1 + x6)) (gt x2 (wi64 (a2 + x6)))) (wi64 (a2 + x6)) (gt x2 (wi64 (a1 + x6))), wi64 (x6 + 1), h1, ha.keep [0, 1, 2, 3, 10] (by kernel_rfl), hI⟩
    · rw [if_neg hb7] at h1
      refine CodT.no' (b := decide (x6 < a3)) (by kernel_rfl) (by simpa using hb7) ?_
      refine CodT.exit ?_
      refine Qn.exit_then ?_
      refine Qn.exit_then ?_
      refine Qn.block ?_
      have e := someS h1
      subst e
      exact Qn.thenJ fun a ha => ⟨x2, rfl, ha.keep [] (by kernel_rfl), hI⟩
  ·
    rintro a w ⟨x1, rfl, ha, hI⟩
    try dsimp only at h0
    refine Qn.of ?_ ha
    obtain ⟨hg28, h0⟩ := guardS h0
    have e := someS h0
    subst e
    refine Qn.keep [] (S' := []) (by kernel_rfl) ?_
    exact post_normal (v := .tuple #[]) (fun a ha => RunRes.run (vs := []) .nil ha (by kernel_rfl)) ⟨rfl, hg28, hI⟩
set_option maxRecDepth 100000 in
set_option maxHeartbeats 4000000 in
/-- slices.rotateCmpFunc[int] -/
theorem c72_2 (w0 w : World) (Z : Hp) (A : HP) (A_a0 : Option Addr) (c_a0 : Nat) (a0 : (List Int)) (a1 : Int) (a2 : Int) (a3 : Int) (b_a4_c0 : Nat) (hz_a4_c0 : Z b_a4_c0 = some (.cells ([.func (.func 52) #[] #[]]).toArray 64 (0, 0))) (b_a4_c1 : Nat) (A_a4_c1_v : Option Addr) (c_a4_c1_v : Nat) (a4_c1_v : (List PoolUse)) (hr_a4_c1_v : RdS Z c_PoolUse 5 A_a4_c1_v c_a4_c1_v a4_c1_v) (hz_a4_c1 : Z b_a4_c1 = some (.cells ([.slice A_a4_c1_v a4_c1_v.length c_a4_c1_v]).toArray 35 (0, 0))) (hI : Inv w0 Z w (star (ownS 3 (cI .i64) 1 A_a0 c_a0 a0) A)) (r : (List Int)) (h0 : slices_rotateCmpFunc' a0 a1 a2 a3 a4_c1_v = some r) :
    Calls prog 72 #[.slice A_a0 a0.length c_a0, .int .i64 a1, .int .i64 a2, .int .i64 a3, .func (.func 62) #[] #[.pointer (some ⟨b_a4_c0, 0, none⟩), .pointer (some ⟨b_a4_c1, 0, none⟩)]] w (fun e w' => e = .returned (.tuple #[]) ∧ r.length = a0.length ∧ Inv w0 Z w' (star (ownS 3 (cI .i64) 1 A_a0 c_a0 r) A)) := by
  refine calls_intro (args := [.slice A_a0 a0.length c_a0, .int .i64 a1, .int .i64 a2, .int .i64 a3, .func (.func 62) #[] #[.pointer (some ⟨b_a4_c0, 0, none⟩), .pointer (some ⟨b_a4_c1, 0, none⟩)]]) (fn := Go.Proofs.Try.f72) 58 Go.Proofs.Try.func72 (by rfl) Go.Proofs.Try.ntmps72 (by kernel_rfl) ?_
  unfold slices_rotateCmpFunc' at h0
  refine CodT.seq ?_
  refine CodT.regionL [0, 1, 2, 3] (by kernel_rfl) ?_
  refine OpsT.pures (r := []) [0, 1, 2, 3] [0, 2, 3, 4, 10] (S' := [(0, .slice A_a0 a0.length c_a0), (2, .int .i64 a2), (3, .int .i64 a3), (4, .func (.func 62) #[] #[.pointer (some ⟨b_a4_c0, 0, none⟩), .pointer (some ⟨b_a4_c1, 0, none⟩)]), (10, .int .i64 (wi64 (a2 - a1)))]) (by kernel_rfl) ?_
  refine OpsT.done ?_
  refine Qn.then ?_
  refine CodT.seq ?_
  refine CodT.regionL [0, 1, 2, 3] (by kernel_rfl) ?_
  refine OpsT.pures (r := []) [0, 1, 2, 3] [0, 2, 4, 10, 11] (S' := [(0, .slice A_a0 a0.length c_a0), (2, .int .i64 a2), (4, .func (.func 62) #[] #[.pointer (some ⟨b_a4_c0, 0, none⟩), .pointer (some ⟨b_a4_c1, 0, none⟩)]), (10, .int .i64 (wi64 (a2 - a1))), (11, .int .i64 (wi64 (a3 - a2)))]) (by kernel_rfl) ?_
  refine OpsT.done ?_
  refine Qn.then ?_
  refine CodT.seq ?_
  obtain ⟨r1, h1, h0⟩ := bindS h0
  refine CodT.meet1 (fun a w => ∃ (x1 : (List Int)) (x5 : Int), (x1, x5) = r1 ∧ Fr 58 [(0, .slice A_a0 x1.length c_a0), (2, .int .i64 a2), (4, .func (.func 62) #[] #[.pointer (some ⟨b_a4_c0, 0, none⟩), .pointer (some ⟨b_a4_c1, 0, none⟩)]), (10, .int .i64 x5)] a ∧ Inv w0 Z w (star (ownS 3 (cI .i64) 1 A_a0 c_a0 x1) A)) ?_ ?_
  ·
    refine CodT.block ?_
    refine (fun a ha => wp_loopN (fun k a w => ∃ (x6 : (List Int)) (x10 : Int) (x11 : Int), slices_rotateCmpFunc'.l0 a2 a4_c1_v k x6 x10 x11 = some r1 ∧ Fr 58 [(0, .slice A_a0 x6.length c_a0), (2, .int .i64 a2), (4, .func (.func 62) #[] #[.pointer (some ⟨b_a4_c0, 0, none⟩), .pointer (some ⟨b_a4_c1, 0, none⟩)]), (10, .int .i64 x10), (11, .int .i64 x11)] a ∧ Inv w0 Z w (star (ownS 3 (cI .i64) 1 A_a0 c_a0 x6) A)) ?_ FU a w ⟨a0, wi64 (a2 - a1), wi64 (a3 - a2), h1, ha.keep [0, 2, 4, 10, 11] (by kernel_rfl), hI⟩)
    clear h1 hI
    rintro k a w ⟨x6, x10, x11, h1, ha, hI⟩
    rcases k with _ | k
    · cases h1
    simp only [slices_rotateCmpFunc'.l0] at h1
    refine CodT.of ?_ ha
    refine CodT.seq ?_
    refine CodT.seq ?_
    refine CodT.regionL [0, 1, 2] (by kernel_rfl) ?_
    refine OpsT.pures (r := []) [0, 1, 2] [0, 2, 4, 10, 11, 20] (S' := [(0, .slice A_a0 x6.length c_a0), (2, .int .i64 a2), (4, .func (.func 62) #[] #[.pointer (some ⟨b_a4_c0, 0, none⟩), .pointer (some ⟨b_a4_c1, 0, none⟩)]), (10, .int .i64 x10), (11, .int .i64 x11), (20, .bool (x10 != x11))]) (by kernel_rfl) ?_
    refine OpsT.done ?_
    refine Qn.then ?_
    by_cases hb12 : (x10 != x11) = true
    · rw [if_pos hb12] at h1
      refine CodT.yes' (b := x10 != x11) (by kernel_rfl) hb12 ?_
      refine CodT.skip ?_
      refine Qn.then ?_
      refine CodT.block ?_
      refine CodT.seq ?_
      refine CodT.regionL [0, 1, 2] (by kernel_rfl) ?_
      refine OpsT.pures (r := []) [0, 1, 2] [0, 2, 4, 10, 11, 23] (S' := [(0, .slice A_a0 x6.length c_a0), (2, .int .i64 a2), (4, .func (.func 62) #[] #[.pointer (some ⟨b_a4_c0, 0, none⟩), .pointer (some ⟨b_a4_c1, 0, none⟩)]), (10, .int .i64 x10), (11, .int .i64 x11), (23, .bool (decide (x10 > x11)))]) (by kernel_rfl) ?_
      refine OpsT.done ?_
      refine Qn.then ?_
      by_cases hb13 : (decide (x10 > x11)) = true
      · rw [if_pos hb13] at h1
        refine CodT.yes' (b := decide (x10 > x11)) (by kernel_rfl) hb13 ?_
        refine CodT.seq ?_
        refine CodT.regionL [0, 1, 2, 3, 4, 5, 6, 7] (by kernel_rfl) ?_
        refine OpsT.pures (r := [7]) [0, 1, 2, 3, 4, 5, 6] [0, 2, 4, 10, 11, 24, 27, 28, 29, 30] (S' := [(0, .slice A_a0 x6.length c_a0), (2, .int .i64 a2), (4, .func (.func 62) #[] #[.pointer (some ⟨b_a4_c0, 0, none⟩), .pointer (some ⟨b_a4_c1, 0, none⟩)]), (10, .int .i64 x10), (11, .int .i64 x11), (24, .slice A_a0 x6.length c_a0), (27, .int .i64 (wi64 (a2 - x10))), (28, .int .i64 a2), (29, .int .i64 x11), (30, .func (.func 62) #[] #[.pointer (some ⟨b_a4_c0, 0, none⟩), .pointer (some ⟨b_a4_c1, 0, none⟩)])]) (by kernel_rfl) ?_
        obtain ⟨y15, hc14, h1⟩ := bindS h1
        try dsimp only at h1
        refine OpsT.cons (Does.call (d := some 31) (n := 73) (vs := [.slice A_a0 x6.length c_a0, .int .i64 (wi64 (a2 - x10)), .int .i64 a2, .int .i64 x11, .func (.func 62) #[] #[.pointer (some ⟨b_a4_c0, 0, none⟩), .pointer (some ⟨b_a4_c1, 0, none⟩)]]) (by kernel_rfl) en73 (c73_2 w0 w _ _ A_a0 c_a0 x6 (wi64 (a2 - x10)) a2 x11 b_a4_c0 hz_a4_c0 b_a4_c1 A_a4_c1_v c_a4_c1_v a4_c1_v hr_a4_c1_v hz_a4_c1 hI _ hc14) ?_)
        rintro e w ⟨rfl, hm16, hI⟩
        refine ⟨_, rfl, ?_⟩
        refine OpsT.keep [0, 2, 4, 10, 11, 24, 27, 28, 29, 30, 31] (S' := [(0, .slice A_a0 y15.length c_a0), (2, .int .i64 a2), (4, .func (.func 62) #[] #[.pointer (some ⟨b_a4_c0, 0, none⟩), .pointer (some ⟨b_a4_c1, 0, none⟩)]), (10, .int .i64 x10), (11, .int .i64 x11), (24, .slice A_a0 y15.length c_a0), (27, .int .i64 (wi64 (a2 - x10))), (28, .int .i64 a2), (29, .int .i64 x11), (30, .func (.func 62) #[] #[.pointer (some ⟨b_a4_c0, 0, none⟩), .pointer (some ⟨b_a4_c1, 0, none⟩)]), (31, .tuple #[])]) (by simp only [hm16]; kernel_rfl) ?_
        refine OpsT.done ?_
        refine Qn.then ?_
        refine CodT.regionL [0, 1, 2, 3] (by kernel_rfl) ?_
        refine OpsT.pures (r := []) [0, 1, 2, 3] [0, 2, 4, 10, 11] (S' := [(0, .slice A_a0 y15.length c_a0), (2, .int .i64 a2), (4, .func (.func 62) #[] #[.pointer (some ⟨b_a4_c0, 0, none⟩), .pointer (some ⟨b_a4_c1, 0, none⟩)]), (10, .int .i64 (wi64 (x10 - x11))), (11, .int .i64 x11)]) (by kernel_rfl) ?_
        refine OpsT.done ?_
        refine Qn.block_normal ?_
        exact Qn.thenJ fun a ha => ⟨k, Nat.lt_succ_self k, y15, wi64 (x10 - x11), x11, h1, ha.keep [0, 2, 4, 10, 11] (by kernel_rfl), hI⟩
      · rw [if_neg hb13] at h1
        refine CodT.no' (b := decide (x10 > x11)) (by kernel_rfl) (by simpa using hb13) ?_
        refine CodT.seq ?_
        refine CodT.regionL [0, 1, 2, 3, 4, 5, 6, 7, 8, 9, 10, 11] (by kernel_rfl) ?_
        refine OpsT.pures (r := [11]) [0, 1, 2, 3, 4, 5, 6, 7, 8, 9, 10] [0, 2, 4, 10, 11, 35, 38, 43, 44, 45] (S' := [(0, .slice A_a0 x6.length c_a0), (2, .int .i64 a2), (4, .func (.func 62) #[] #[.pointer (some ⟨b_a4_c0, 0, none⟩), .pointer (some ⟨b_a4_c1, 0, none⟩)]), (10, .int .i64 x10), (11, .int .i64 x11), (35, .slice A_a0 x6.length c_a0), (38, .int .i64 (wi64 (a2 - x10))), (43, .int .i64 (wi64 ((wi64 (a2 + x11)) - x10))), (44, .int .i64 x10), (45, .func (.func 62) #[] #[.pointer (some ⟨b_a4_c0, 0, none⟩), .pointer (some ⟨b_a4_c1, 0, none⟩)])]) (by kernel_rfl) ?_
        obtain ⟨y18, hc17, h1⟩ := bindS h1
        try dsimp only at h1
        refine OpsT.cons (Does.call (d := some 46) (n := 73) (vs := [.slice A_a0 x6.length c_a0, .int .i64 (wi64 (a2 - x10)), .int .i64 (wi64 ((wi64 (a2 + x11)) - x10)), .int .i64 x10, .func (.func 62) #[] #[.pointer (some ⟨b_a4_c0, 0, none⟩), .pointer (some ⟨b_a4_c1, 0, none⟩)]]) (by kernel_rfl) en73 (c73_2 w0 w _ _ A_a0 c_a0 x6 (wi64 (a2 - x10)) (wi64 ((wi64 (a2 + x11)) - x10)) x10 b_a4_c0 hz_a4_c0 b_a4_c1 A_a4_c1_v c_a4_c1_v a4_c1_v hr_a4_c1_v hz_a4_c1 hI _ hc17) ?_)
        rintro e w ⟨rfl, hm19, hI⟩
        refine ⟨_, rfl, ?_⟩
        refine OpsT.keep [0, 2, 4, 10, 11, 35, 38, 43, 44, 45, 46] (S' := [(0, .slice A_a0 y18.length c_a0), (2, .int .i64 a2), (4, .func (.func 62) #[] #[.pointer (some ⟨b_a4_c0, 0, none⟩), .pointer (some ⟨b_a4_c1, 0, none⟩)]), (10, .int .i64 x10), (11, .int .i64 x11), (35, .slice A_a0 y18.length c_a0), (38, .int .i64 (wi64 (a2 - x10))), (43, .int .i64 (wi64 ((wi64 (a2 + x11)) - x10))), (44, .int .i64 x10), (45, .func (.func 62) #[] #[.pointer (some ⟨b_a4_c0, 0, none⟩), .pointer (some ⟨b_a4_c1, 0, none⟩)]), (46, .tuple #[])]) (by simp only [hm19]; kernel_rfl) ?_
        refine OpsT.done ?_
        refine Qn.then ?_
        refine CodT.regionL [0, 1, 2, 3] (by kernel_rfl) ?_
        refine OpsT.pures (r := []) [0, 1, 2, 3] [0, 2, 4, 10, 11] (S' := [(0, .slice A_a0 y18.length c_a0), (2, .int .i64 a2), (4, .func (.func 62) #[] #[.pointer (some ⟨b_a4_c0, 0, none⟩), .pointer (some ⟨b_a4_c1, 0, none⟩)]), (10, .int .i64 x10), (11, .int .i64 (wi64 (x11 - x10)))]) (by kernel_rfl) ?_
        refine OpsT.done ?_
        refine Qn.block_normal ?_
        exact Qn.thenJ fun a ha => ⟨k, Nat.lt_succ_self k, y18, x10, wi64 (x11 - x10), h1, ha.keep [0, 2, 4, 10, 11] (by kernel_rfl), hI⟩
    · rw [if_neg hb12] at h1
      refine CodT.no' (b := x10 != x11) (by kernel_rfl) (by simpa using hb12) ?_
      refine CodT.exit ?_
      refine Qn.exit_then ?_
      refine Qn.exit_then ?_
      refine Qn.block ?_
      have e := someS h1
      subst e
      exact Qn.thenJ fun a ha => ⟨x6, x10, rfl, ha.keep [0, 2, 4, 10] (by kernel_rfl), hI⟩
  ·
    rintro a w ⟨x1, x5, rfl, ha, hI⟩
    try dsimp only at h0
    refine Qn.of ?_ ha
    refine Qn.then ?_
    refine CodT.regionL [0, 1, 2, 3, 4, 5, 6, 7] (by kernel_rfl) ?_
    refine OpsT.pures (r := [7]) [0, 1, 2, 3, 4, 5, 6] [50, 53, 54, 55, 56] (S' := [(50, .slice A_a0 x1.length c_a0), (53, .int .i64 (wi64 (a2 - x5))), (54, .int .i64 a2), (55, .int .i64 x5), (56, .func (.func 62) #[] #[.pointer (some ⟨b_a4_c0, 0, none⟩), .pointer (some ⟨b_a4_c1, 0, none⟩)])]) (by kernel_rfl) ?_
    obtain ⟨y21, hc20, h0⟩ := bindS h0
    try dsimp only at h0
    refine OpsT.cons (Does.call (d := some 57) (n := 73) (vs := [.slice A_a0 x1.length c_a0, .int .i64 (wi64 (a2 - x5)), .int .i64 a2, .int .i64 x5, .func (.func 62) #[] #[.pointer (some ⟨b_a4_c0, 0, none⟩), .pointer (some ⟨b_a4_c1, 0, none⟩)]]) (by kernel_rfl) en73 (c73_2 w0 w _ _ A_a0 c_a0 x1 (wi64 (a2 - x5)) a2 x5 b_a4_c0 hz_a4_c0 b_a4_c1 A_a4_c1_v c_a4_c1_v a4_c1_v hr_a4_c1_v hz_a4_c1 hI _ hc20) ?_)
    rintro e w ⟨rfl, hm22, hI⟩
    refine ⟨_, rfl, ?_⟩
    refine OpsT.keep [50, 53, 54, 55, 56, 57] (S' := [(50, .slice A_a0 y21.length c_a0), (53, .int .i64 (wi64 (a2 - x5))), (54, .int .i64 a2), (55, .int .i64 x5), (56, .func (.func 62) #[] #[.pointer (some ⟨b_a4_c0, 0, none⟩), .pointer (some ⟨b_a4_c1, 0, none⟩)]), (57, .tuple #[])]) (by simp only [hm22]; kernel_rfl) ?_
    refine OpsT.done ?_
    obtain ⟨hg23, h0⟩ := guardS h0
    have e := someS h0
    subst e
    refine Qn.keep [] (S' := []) (by kernel_rfl) ?_
    exact post_normal (v := .tuple #[]) (fun a ha => RunRes.run (vs := []) .nil ha (by kernel_rfl)) ⟨rfl, hg23, hI⟩
set_option maxRecDepth 100000 in
set_option maxHeartbeats 4000000 in
/-- slices.symMergeCmpFunc[int] -/
theorem c71_2 : ∀ (fk : Nat) (w0 w : World) (Z : Hp) (A : HP) (A_a0 : Option Addr) (c_a0 : Nat) (a0 : (List Int)) (a1 : Int) (a2 : Int) (a3 : Int) (b_a4_c0 : Nat) (hz_a4_c0 : Z b_a4_c0 = some (.cells ([.func (.func 52) #[] #[]]).toArray 64 (0, 0))) (b_a4_c1 : Nat) (A_a4_c1_v : Option Addr) (c_a4_c1_v : Nat) (a4_c1_v : (List PoolUse)) (hr_a4_c1_v : RdS Z c_PoolUse 5 A_a4_c1_v c_a4_c1_v a4_c1_v) (hz_a4_c1 : Z b_a4_c1 = some (.cells ([.slice A_a4_c1_v a4_c1_v.length c_a4_c1_v]).toArray 35 (0, 0))) (hI : Inv w0 Z w (star (ownS 3 (cI .i64) 1 A_a0 c_a0 a0) A)) (r : (List Int)) (h0 : slices_symMergeCmpFunc' fk a0 a1 a2 a3 a4_c1_v = some r),
    Calls prog 71 #[.slice A_a0 a0.length c_a0, .int .i64 a1, .int .i64 a2, .int .i64 a3, .func (.func 62) #[] #[.pointer (some ⟨b_a4_c0, 0, none⟩), .pointer (some ⟨b_a4_c1, 0, none⟩)]] w (fun e w' => e = .returned (.tuple #[]) ∧ r.length = a0.length ∧ Inv w0 Z w' (star (ownS 3 (cI .i64) 1 A_a0 c_a0 r) A)) := by
  intro fk
  induction fk with
  | zero => intro w0 w Z A A_a0 c_a0 a0 a1 a2 a3 b_a4_c0 hz_a4_c0 b_a4_c1 A_a4_c1_v c_a4_c1_v a4_c1_v hr_a4_c1_v hz_a4_c1 hI r h0; simp [slices_symMergeCmpFunc'] at h0
  | succ fk ih =>
  intro w0 w Z A A_a0 c_a0 a0 a1 a2 a3 b_a4_c0 hz_a4_c0 b_a4_c1 A_a4_c1_v c_a4_c1_v a4_c1_v hr_a4_c1_v hz_a4_c1 hI r h0
  refine calls_intro (args := [.slice A_a0 a0.length c_a0, .int .i64 a1, .int .i64 a2, .int .i64 a3, .func (.func 62) #[] #[.pointer (some ⟨b_a4_c0, 0, none⟩), .pointer (some ⟨b_a4_c1, 0, none⟩)]]) (fn := Go.Proofs.Try.f71) 220 Go.Proofs.Try.func71 (by rfl) Go.Proofs.Try.ntmps71 (by kernel_rfl) ?_
  simp only [slices_symMergeCmpFunc'] at h0
  refine CodT.seq ?_
  refine CodT.seq ?_
  refine CodT.regionL [0, 1, 2, 3] (by kernel_rfl) ?_
  refine OpsT.pures (r := []) [0, 1, 2, 3] [0, 1, 2, 3, 4, 28] (S' := [(0, .slice A_a0 a0.length c_a0), (1, .int .i64 a1), (2, .int .i64 a2), (3, .int .i64 a3), (4, .func (.func 62) #[] #[.pointer (some ⟨b_a4_c0, 0, none⟩), .pointer (some ⟨b_a4_c1, 0, none⟩)]), (28, .bool ((wi64 (a2 - a1)) == 1))]) (by kernel_rfl) ?_
  refine OpsT.done ?_
  refine Qn.then ?_
  by_cases hb1 : ((wi64 (a2 - a1)) == 1) = true
  · rw [if_pos hb1] at h0
    refine CodT.yes' (b := (wi64 (a2 - a1)) == 1) (by kernel_rfl) hb1 ?_
    refine CodT.seq ?_
    refine CodT.regionL [0, 1] (by kernel_rfl) ?_
    refine OpsT.pures (r := []) [0, 1] [0, 1, 3, 4, 10] (S' := [(0, .slice A_a0 a0.length c_a0), (1, .int .i64 a1), (3, .int .i64 a3), (4, .func (.func 62) #[] #[.pointer (some ⟨b_a4_c0, 0, none⟩), .pointer (some ⟨b_a4_c1, 0, none⟩)]), (10, .int .i64 a2)]) (by kernel_rfl) ?_
    refine OpsT.done ?_
    refine Qn.then ?_
    refine CodT.seq ?_
    refine CodT.regionL [0, 1] (by kernel_rfl) ?_
    refine OpsT.pures (r := []) [0, 1] [0, 1, 4, 10, 11] (S' := [(0, .slice A_a0 a0.length c_a0), (1, .int .i64 a1), (4, .func (.func 62) #[] #[.pointer (some ⟨b_a4_c0, 0, none⟩), .pointer (some ⟨b_a4_c1, 0, none⟩)]), (10, .int .i64 a2), (11, .int .i64 a3)]) (by kernel_rfl) ?_
    refine OpsT.done ?_
    refine Qn.then ?_
    refine CodT.seq ?_
    obtain ⟨r1, h1, h0⟩ := bindS h0
    refine CodT.meet1 (fun a w => ∃ (x2 : Int), x2 = r1 ∧ Fr 220 [(0, .slice A_a0 a0.length c_a0), (1, .int .i64 a1), (10, .int .i64 x2)] a ∧ Inv w0 Z w (star (ownS 3 (cI .i64) 1 A_a0 c_a0 a0) A)) ?_ ?_
    ·
      refine CodT.block ?_
      refine (fun a ha => wp_loopN (fun k a w => ∃ (x3 : Int) (x4 : Int), slices_symMergeCmpFunc'.l0 a0 a1 a4_c1_v k x3 x4 = some r1 ∧ Fr 220 [(0, .slice A_a0 a0.length c_a0), (1, .int .i64 a1), (4, .func (.func 62) #[] #[.pointer (some ⟨b_a4_c0, 0, none⟩), .pointer (some ⟨b_a4_c1, 0, none⟩)]), (10, .int .i64 x3), (11, .int .i64 x4)] a ∧ Inv w0 Z w (star (ownS 3 (cI .i64) 1 A_a0 c_a0 a0) A)) ?_ FU a w ⟨a2, a3, h1, ha.keep [0, 1, 4, 10, 11] (by kernel_rfl), hI⟩)
      clear h1 hI
      rintro k a w ⟨x3, x4, h1, ha, hI⟩
      rcases k with _ | k
      · cases h1
      simp only [slices_symMergeCmpFunc'.l0] at h1
      refine CodT.of ?_ ha
      refine CodT.seq ?_
      refine CodT.seq ?_
      refine CodT.regionL [0, 1, 2] (by kernel_rfl) ?_
      refine OpsT.pures (r := []) [0, 1, 2] [0, 1, 4, 10, 11, 33] (S' := [(0, .slice A_a0 a0.length c_a0), (1, .int .i64 a1), (4, .func (.func 62) #[] #[.pointer (some ⟨b_a4_c0, 0, none⟩), .pointer (some ⟨b_a4_c1, 0, none⟩)]), (10, .int .i64 x3), (11, .int .i64 x4), (33, .bool (decide (x3 < x4)))]) (by kernel_rfl) ?_
      refine OpsT.done ?_
      refine Qn.then ?_
      by_cases hb5 : (decide (x3 < x4)) = true
      · rw [if_pos hb5] at h1
        refine CodT.yes' (b := decide (x3 < x4)) (by kernel_rfl) hb5 ?_
        refine CodT.skip ?_
        refine Qn.then ?_
        refine CodT.block ?_
        refine CodT.seq ?_
        refine CodT.regionL [0, 1, 2, 3, 4, 5, 6] (by kernel_rfl) ?_
        refine OpsT.pures (r := []) [0, 1, 2, 3, 4, 5, 6] [0, 1, 4, 10, 11, 12] (S' := [(0, .slice A_a0 a0.length c_a0), (1, .int .i64 a1), (4, .func (.func 62) #[] #[.pointer (some ⟨b_a4_c0, 0, none⟩), .pointer (some ⟨b_a4_c1, 0, none⟩)]), (10, .int .i64 x3), (11, .int .i64 x4), (12, .int .i64 (wi64 (bShr .u64 (wu64 (wi64 (x3 + x4))) 1)))]) (by kernel_rfl) ?_
        refine OpsT.done ?_
        refine Qn.then ?_
        refine CodT.seq ?_
        refine CodT.drawI (n := 11) [] (by kernel_rfl) (by kernel_rfl) hI ?_
        intro w hI
        refine GmT.p' 0 40 (.func (.func 62) #[] #[.pointer (some ⟨b_a4_c0, 0, none⟩), .pointer (some ⟨b_a4_c1, 0, none⟩)]) (by kernel_rfl) (by kernel_rfl) ?_
        refine GmT.p' 1 41 (.slice A_a0 a0.length c_a0) (by kernel_rfl) (by kernel_rfl) ?_
        refine GmT.p' 2 42 (.int .i64 (wi64 (bShr .u64 (wu64 (wi64 (x3 + x4))) 1))) (by kernel_rfl) (by kernel_rfl) ?_
        refine GmT.p' 5 45 (.slice A_a0 a0.length c_a0) (by kernel_rfl) (by kernel_rfl) ?_
        refine GmT.p' 6 46 (.int .i64 a1) (by kernel_rfl) (by kernel_rfl) ?_
        obtain ⟨hg6, h1⟩ := guardS h1
        obtain ⟨g7, hA8, hr9, hl10⟩ := ownS_get hI hg6.1 hg6.2
        refine GmT.r (i := 3) 2 (by kernel_rfl) (by kernel_rfl) (Yl.indexSlice (d := 43) (T := 40) (cc := c_a0) (k := .i64) (j := wi64 (bShr .u64 (wu64 (wi64 (x3 + x4))) 1)) (g := g7) (o := 0) (by kernel_rfl) Go.Proofs.Try.underlying40 ty3 hA8 hg6.1 hg6.2) hI ?_
        refine GmT.r (i := 4) 2 (by kernel_rfl) (by kernel_rfl) (Yl.load (d := 44) (T := 3) (v := .int .i64 (gt a0 (wi64 (bShr .u64 (wu64 (wi64 (x3 + x4))) 1)))) (by kernel_rfl) (ldR ty3 (v := .int .i64 (gt a0 (wi64 (bShr .u64 (wu64 (wi64 (x3 + x4))) 1)))) 0 (fun w hC => hr9 w0 w _ hC) (by kernel_rfl))) hI ?_
        obtain ⟨hg11, h1⟩ := guardS h1
        obtain ⟨g12, hA13, hr14, hl15⟩ := ownS_get hI hg11.1 hg11.2
        refine GmT.r (i := 7) 2 (by kernel_rfl) (by kernel_rfl) (Yl.indexSlice (d := 47) (T := 40) (cc := c_a0) (k := .i64) (j := a1) (g := g12) (o := 0) (by kernel_rfl) Go.Proofs.Try.underlying40 ty3 hA13 hg11.1 hg11.2) hI ?_
        refine GmT.r (i := 8) 2 (by kernel_rfl) (by kernel_rfl) (Yl.load (d := 48) (T := 3) (v := .int .i64 (gt a0 a1)) (by kernel_rfl) (ldR ty3 (v := .int .i64 (gt a0 a1)) 0 (fun w hC => hr14 w0 w _ hC) (by kernel_rfl))) hI ?_
        obtain ⟨y17, hc16, h1⟩ := bindS h1
        try dsimp only at h1
        refine GmT.o (i := 9) (by kernel_rfl) (Does.call (d := some 49) (n := 62) (vs := [.int .i64 (gt a0 (wi64 (bShr .u64 (wu64 (wi64 (x3 + x4))) 1))), .int .i64 (gt a0 a1), .pointer (some ⟨b_a4_c0, 0, none⟩), .pointer (some ⟨b_a4_c1, 0, none⟩)]) (by kernel_rfl) en62 (c62_2 w0 w _ _ hI (gt a0 (wi64 (bShr .u64 (wu64 (wi64 (x3 + x4))) 1))) (gt a0 a1) b_a4_c0 hz_a4_c0 b_a4_c1 A_a4_c1_v c_a4_c1_v a4_c1_v hr_a4_c1_v hz_a4_c1 _ hc16) ?_)
        rintro e w ⟨rfl, hI⟩
        refine ⟨_, rfl, ?_⟩
        refine ⟨fun _ _ => hI, ?_⟩
        refine GmT.p' 10 50 (.bool (decide (y17 < 0))) (by kernel_rfl) (by kernel_rfl) ?_
        refine GmT.done (by kernel_rfl) ?_
        refine Qn.then ?_
        by_cases hb18 : (decide (y17 < 0)) = true
        · rw [if_pos hb18] at h1
          refine CodT.yes' (b := decide (y17 < 0)) (by kernel_rfl) hb18 ?_
          refine CodT.regionL [0, 1, 2] (by kernel_rfl) ?_
          refine OpsT.pures (r := []) [0, 1, 2] [0, 1, 4, 10, 11] (S' := [(0, .slice A_a0 a0.length c_a0), (1, .int .i64 a1), (4, .func (.func 62) #[] #[.pointer (some ⟨b_a4_c0, 0, none⟩), .pointer (some ⟨b_a4_c1, 0, none⟩)]), (10, .int .i64 (wi64 ((wi64 (bShr .u64 (wu64 (wi64 (x3 + x4))) 1)) + 1))), (11, .int .i64 x4)]) (by kernel_rfl) ?_
          refine OpsT.done ?_
          refine Qn.block_normal ?_
          exact Qn.thenJ fun a ha => ⟨k, Nat.lt_succ_self k, wi64 ((wi64 (bShr .u64 (wu64 (wi64 (x3 + x4))) 1)) + 1), x4, h1, ha.keep [0, 1, 4, 10, 11] (by kernel_rfl), hI⟩
        · rw [if_neg hb18] at h1
          refine CodT.no' (b := decide (y17 < 0)) (by kernel_rfl) (by simpa using hb18) ?_
          refine CodT.regionL [0, 1] (by kernel_rfl) ?_
          refine OpsT.pures (r := []) [0, 1] [0, 1, 4, 10, 11] (S' := [(0, .slice A_a0 a0.length c_a0), (1, .int .i64 a1), (4, .func (.func 62) #[] #[.pointer (some ⟨b_a4_c0, 0, none⟩), .pointer (some ⟨b_a4_c1, 0, none⟩)]), (10, .int .i64 x3), (11, .int .i64 (wi64 (bShr .u64 (wu64 (wi64 (x3 + x4))) 1)))]) (by kernel_rfl) ?_
          refine OpsT.done ?_
          refine Qn.block_normal ?_
          exact Qn.thenJ fun a ha => ⟨k, Nat.lt_succ_self k, x3, wi64 (bShr .u64 (wu64 (wi64 (x3 + x4))) 1), h1, ha.keep [0, 1, 4, 10, 11] (by kernel_rfl), hI⟩
      · rw [if_neg hb5] at h1
        refine CodT.no' (b := decide (x3 < x4)) (by kernel_rfl) (by simpa using hb5) ?_
        refine CodT.exit ?_
        refine Qn.exit_then ?_
        refine Qn.exit_then ?_
        refine Qn.block ?_
        have e := someS h1
        subst e
        exact Qn.thenJ fun a ha => ⟨x3, rfl, ha.keep [0, 1, 10] (by kernel_rfl), hI⟩
    ·
      rintro a w ⟨x2, rfl, ha, hI⟩
      try dsimp only at h0
      refine Qn.of ?_ ha
      refine Qn.then ?_
      refine CodT.seq ?_
      refine CodT.seq ?_
      refine CodT.regionL [0, 1] (by kernel_rfl) ?_
      refine OpsT.pures (r := []) [0, 1] [0, 10, 13] (S' := [(0, .slice A_a0 a0.length c_a0), (10, .int .i64 x2), (13, .int .i64 a1)]) (by kernel_rfl) ?_
      refine OpsT.done ?_
      refine Qn.then ?_
      obtain ⟨r1, h1, h0⟩ := bindS h0
      refine CodT.meet1 (fun a w => ∃ (x19 : (List Int)), x19 = r1 ∧ Fr 220 [] a ∧ Inv w0 Z w (star (ownS 3 (cI .i64) 1 A_a0 c_a0 x19) A)) ?_ ?_
      ·
        refine CodT.block ?_
        refine (fun a ha => wp_loopN (fun k a w => ∃ (x20 : (List Int)) (x24 : Int), slices_symMergeCmpFunc'.l1 x2 k x20 x24 = some r1 ∧ Fr 220 [(0, .slice A_a0 x20.length c_a0), (10, .int .i64 x2), (13, .int .i64 x24)] a ∧ Inv w0 Z w (star (ownS 3 (cI .i64) 1 A_a0 c_a0 x20) A)) ?_ FU a w ⟨a0, a1, h1, ha.keep [0, 10, 13] (by kernel_rfl), hI⟩)
        clear h1 hI
        rintro k a w ⟨x20, x24, h1, ha, hI⟩
        rcases k with _ | k
        · cases h1
        simp only [slices_symMergeCmpFunc'.l1] at h1
        refine CodT.of ?_ ha
        refine CodT.seq ?_
        refine CodT.seq ?_
        refine CodT.regionL [0, 1, 2, 3] (by kernel_rfl) ?_
        refine OpsT.pures (r := []) [0, 1, 2, 3] [0, 10, 13, 58] (S' := [(0, .slice A_a0 x20.length c_a0), (10, .int .i64 x2), (13, .int .i64 x24), (58, .bool (decide (x24 < (wi64 (x2 - 1)))))]) (by kernel_rfl) ?_
        refine OpsT.done ?_
        refine Qn.then ?_
        by_cases hb25 : (decide (x24 < (wi64 (x2 - 1)))) = true
        · rw [if_pos hb25] at h1
          refine CodT.yes' (b := decide (x24 < (wi64 (x2 - 1)))) (by kernel_rfl) hb25 ?_
          refine CodT.skip ?_
          refine Qn.then ?_
          refine CodT.seq ?_
          refine CodT.block ?_
          refine CodT.drawI (n := 18) [15, 17] (by kernel_rfl) (by kernel_rfl) hI ?_
          intro w hI
          refine GmT.p' 0 61 (.slice A_a0 x20.length c_a0) (by kernel_rfl) (by kernel_rfl) ?_
          refine GmT.p' 1 62 (.int .i64 x24) (by kernel_rfl) (by kernel_rfl) ?_
          refine GmT.p' 2 63 (.slice A_a0 x20.length c_a0) (by kernel_rfl) (by kernel_rfl) ?_
          refine GmT.p' 3 64 (.int .i64 x24) (by kernel_rfl) (by kernel_rfl) ?_
          refine GmT.p' 4 65 (.int .i64 (wi64 (x24 + 1))) (by kernel_rfl) (by kernel_rfl) ?_
          refine GmT.p' 5 66 (.slice A_a0 x20.length c_a0) (by kernel_rfl) (by kernel_rfl) ?_
          refine GmT.p' 6 67 (.int .i64 x24) (by kernel_rfl) (by kernel_rfl) ?_
          refine GmT.p' 7 68 (.int .i64 (wi64 (x24 + 1))) (by kernel_rfl) (by kernel_rfl) ?_
          refine GmT.p' 10 71 (.slice A_a0 x20.length c_a0) (by kernel_rfl) (by kernel_rfl) ?_
          refine GmT.p' 11 72 (.int .i64 x24) (by kernel_rfl) (by kernel_rfl) ?_
          obtain ⟨hg26, h1⟩ := guardS h1
          obtain ⟨g27, hA28, hr29, hl30⟩ := ownS_get hI hg26.1 hg26.2
          refine GmT.r (i := 8) 2 (by kernel_rfl) (by kernel_rfl) (Yl.indexSlice (d := 69) (T := 40) (cc := c_a0) (k := .i64) (j := wi64 (x24 + 1)) (g := g27) (o := 0) (by kernel_rfl) Go.Proofs.Try.underlying40 ty3 hA28 hg26.1 hg26.2) hI ?_
          refine GmT.r (i := 9) 2 (by kernel_rfl) (by kernel_rfl) (Yl.load (d := 70) (T := 3) (v := .int .i64 (gt x20 (wi64 (x24 + 1)))) (by kernel_rfl) (ldR ty3 (v := .int .i64 (gt x20 (wi64 (x24 + 1)))) 0 (fun w hC => hr29 w0 w _ hC) (by kernel_rfl))) hI ?_
          obtain ⟨hg31, h1⟩ := guardS h1
          obtain ⟨g32, hA33, hr34, hl35⟩ := ownS_get hI hg31.1 hg31.2
          refine GmT.r (i := 12) 3 (by kernel_rfl) (by kernel_rfl) (Yl.indexSlice (d := 73) (T := 40) (cc := c_a0) (k := .i64) (j := x24) (g := g32) (o := 0) (by kernel_rfl) Go.Proofs.Try.underlying40 ty3 hA33 hg31.1 hg31.2) hI ?_
          refine GmT.r (i := 13) 2 (by kernel_rfl) (by kernel_rfl) (Yl.load (d := 74) (T := 3) (v := .int .i64 (gt x20 x24)) (by kernel_rfl) (ldR ty3 (v := .int .i64 (gt x20 x24)) 0 (fun w hC => hr34 w0 w _ hC) (by kernel_rfl))) hI ?_
          obtain ⟨hg36, h1⟩ := guardS h1
          obtain ⟨g37, hA38, hr39, hl40⟩ := ownS_get hI hg36.1 hg36.2
          refine GmT.r (i := 14) 2 (by kernel_rfl) (by kernel_rfl) (Yl.indexSlice (d := 75) (T := 40) (cc := c_a0) (k := .i64) (j := x24) (g := g37) (o := 0) (by kernel_rfl) Go.Proofs.Try.underlying40 ty3 hA38 hg36.1 hg36.2) hI ?_
          refine GmT.o (i := 15) (by kernel_rfl) (Does.storeElem (T := 3) (j := x24) (k := 0) (v := .int .i64 (gt x20 (wi64 (x24 + 1)))) (vs := [.int .i64 (gt x20 (wi64 (x24 + 1)))]) (gt x20 (wi64 (x24 + 1))) (by kernel_rfl) ty3 hA38 hI hg36.1 hg36.2 (by kernel_rfl) (by kernel_rfl) (by kernel_rfl) (by kernel_rfl) (by kernel_rfl) ?_)
          intro w hI
          refine ⟨fun h => absurd h (by decide), ?_⟩
          refine GmT.keep [0, 10, 13, 58, 61, 62, 63, 64, 65, 66, 67, 68, 70, 71, 72, 74] (S' := [(0, .slice A_a0 ((st x20 x24 (gt x20 (wi64 (x24 + 1)))).length) c_a0), (10, .int .i64 x2), (13, .int .i64 x24), (58, .bool (decide (x24 < (wi64 (x2 - 1))))), (61, .slice A_a0 ((st x20 x24 (gt x20 (wi64 (x24 + 1)))).length) c_a0), (62, .int .i64 x24), (63, .slice A_a0 ((st x20 x24 (gt x20 (wi64 (x24 + 1)))).length) c_a0), (64, .int .i64 x24), (65, .int .i64 (wi64 (x24 + 1))), (66, .slice A_a0 ((st x20 x24 (gt x20 (wi64 (x24 + 1)))).length) c_a0), (67, .int .i64 x24), (68, .int .i64 (wi64 (x24 + 1))), (70, .int .i64 (gt x20 (wi64 (x24 + 1)))), (71, .slice A_a0 ((st x20 x24 (gt x20 (wi64 (x24 + 1)))).length) c_a0), (72, .int .i64 x24), (74, .int .i64 (gt x20 x24))]) (by simp only [st_length]; kernel_rfl) ?_
          obtain ⟨hg41, h1⟩ := guardS h1
          obtain ⟨g42, hA43, hr44, hl45⟩ := ownS_get hI hg41.1 hg41.2
          refine GmT.o (i := 16) (by kernel_rfl) (Does.yi (Yl.indexSlice (d := 76) (T := 40) (cc := c_a0) (k := .i64) (j := wi64 (x24 + 1)) (g := g42) (o := 0) (by kernel_rfl) Go.Proofs.Try.underlying40 ty3 hA43 hg41.1 hg41.2) hI ?_)
          refine ⟨fun _ h => h, ?_⟩
          refine GmT.o (i := 17) (by kernel_rfl) (Does.storeElem (T := 3) (j := wi64 (x24 + 1)) (k := 0) (v := .int .i64 (gt x20 x24)) (vs := [.int .i64 (gt x20 x24)]) (gt x20 x24) (by kernel_rfl) ty3 hA43 hI hg41.1 hg41.2 (by kernel_rfl) (by kernel_rfl) (by kernel_rfl) (by kernel_rfl) (by kernel_rfl) ?_)
          intro w hI
          refine ⟨fun h => absurd h (by decide), ?_⟩
          refine GmT.keep [0, 10, 13, 58, 61, 62, 63, 64, 65, 66, 67, 68, 70, 71, 72, 74] (S' := [(0, .slice A_a0 ((st (st x20 x24 (gt x20 (wi64 (x24 + 1)))) (wi64 (x24 + 1)) (gt x20 x24)).length) c_a0), (10, .int .i64 x2), (13, .int .i64 x24), (58, .bool (decide (x24 < (wi64 (x2 - 1))))), (61, .slice A_a0 ((st (st x20 x24 (gt x20 (wi64 (x24 + 1)))) (wi64 (x24 + 1)) (gt x20 x24)).length) c_a0), (62, .int .i64 x24), (63, .slice A_a0 ((st (st x20 x24 (gt x20 (wi64 (x24 + 1)))) (wi64 (x24 + 1)) (gt x20 x24)).length) c_a0), (64, .int .i64 x24), (65, .int .i64 (wi64 (x24 + 1))), (66, .slice A_a0 ((st (st x20 x24 (gt x20 (wi64 (x24 + 1)))) (wi64 (x24 + 1)) (gt x20 x24)).length) c_a0), (67, .int .i64 x24), (68, .int .i64 (wi64 (x24 + 1))), (70, .int .i64 (gt x20 (wi64 (x24 + 1)))), (71, .slice A_a0 ((st (st x20 x24 (gt x20 (wi64 (x24 + 1)))) (wi64 (x24 + 1)) (gt x20 x24)).length) c_a0), (72, .int .i64 x24), (74, .int .i64 (gt x20 x24))]) (by simp only [st_length]; kernel_rfl) ?_
          refine GmT.done (by kernel_rfl) ?_
          refine Qn.block_normal ?_
          refine Qn.then ?_
          refine CodT.regionL [0, 1, 2] (by kernel_rfl) ?_
          refine OpsT.pures (r := []) [0, 1, 2] [0, 10, 13] (S' := [(0, .slice A_a0 ((st (st x20 x24 (gt x20 (wi64 (x24 + 1)))) (wi64 (x24 + 1)) (gt x20 x24)).length) c_a0), (10, .int .i64 x2), (13, .int .i64 (wi64 (x24 + 1)))]) (by kernel_rfl) ?_
          refine OpsT.done ?_
          exact Qn.thenJ fun a ha => ⟨k, Nat.lt_succ_self k, st (st x20 x24 (gt x20 (wi64 (x24 + 1)))) (wi64 (x24 + 1)) (gt x20 x24), wi64 (x24 + 1), h1, ha.keep [0, 10, 13] (by kernel_rfl), hI⟩
        · rw [if_neg hb25] at h1
          refine CodT.no' (b := decide (x24 < (wi64 (x2 - 1)))) (by kernel_rfl) (by simpa using hb25) ?_
          refine CodT.exit ?_
          refine Qn.exit_then ?_
          refine Qn.exit_then ?_
          refine Qn.block ?_
          have e := someS h1
          subst e
          exact Qn.thenJ fun a ha => ⟨x20, rfl, ha.keep [] (by kernel_rfl), hI⟩
      ·
        rintro a w ⟨x19, rfl, ha, hI⟩
        try dsimp only at h0
        refine Qn.of ?_ ha
        refine Qn.then ?_
        refine CodT.ret ?_
        refine Qn.ret_then ?_
        obtain ⟨hg46, h0⟩ := guardS h0
        have e := someS h0
        subst e
        refine Qn.keep [] (S' := []) (by kernel_rfl) ?_
        exact post_ret (v := .tuple #[]) (fun a ha => RunRes.run (vs := []) .nil ha (by kernel_rfl)) ⟨rfl, hg46, hI⟩
  · rw [if_neg hb1] at h0
    refine CodT.no' (b := (wi64 (a2 - a1)) == 1) (by kernel_rfl) (by simpa using hb1) ?_
    refine CodT.skip ?_
    refine Qn.then ?_
    refine CodT.seq ?_
    refine CodT.seq ?_
    refine CodT.regionL [0, 1, 2, 3] (by kernel_rfl) ?_
    refine OpsT.pures (r := []) [0, 1, 2, 3] [0, 1, 2, 3, 4, 80] (S' := [(0, .slice A_a0 a0.length c_a0), (1, .int .i64 a1), (2, .int .i64 a2), (3, .int .i64 a3), (4, .func (.func 62) #[] #[.pointer (some ⟨b_a4_c0, 0, none⟩), .pointer (some ⟨b_a4_c1, 0, none⟩)]), (80, .bool ((wi64 (a3 - a2)) == 1))]) (by kernel_rfl) ?_
    refine OpsT.done ?_
    refine Qn.then ?_
    by_cases hb47 : ((wi64 (a3 - a2)) == 1) = true
    · rw [if_pos hb47] at h0
      refine CodT.yes' (b := (wi64 (a3 - a2)) == 1) (by kernel_rfl) hb47 ?_
      refine CodT.seq ?_
      refine CodT.regionL [0, 1] (by kernel_rfl) ?_
      refine OpsT.pures (r := []) [0, 1] [0, 2, 4, 14] (S' := [(0, .slice A_a0 a0.length c_a0), (2, .int .i64 a2), (4, .func (.func 62) #[] #[.pointer (some ⟨b_a4_c0, 0, none⟩), .pointer (some ⟨b_a4_c1, 0, none⟩)]), (14, .int .i64 a1)]) (by kernel_rfl) ?_
      refine OpsT.done ?_
      refine Qn.then ?_
      refine CodT.seq ?_
      refine CodT.regionL [0, 1] (by kernel_rfl) ?_
      refine OpsT.pures (r := []) [0, 1] [0, 2, 4, 14, 15] (S' := [(0, .slice A_a0 a0.length c_a0), (2, .int .i64 a2), (4, .func (.func 62) #[] #[.pointer (some ⟨b_a4_c0, 0, none⟩), .pointer (some ⟨b_a4_c1, 0, none⟩)]), (14, .int .i64 a1), (15, .int .i64 a2)]) (by kernel_rfl) ?_
      refine OpsT.done ?_
      refine Qn.then ?_
      refine CodT.seq ?_
      obtain ⟨r1, h1, h0⟩ := bindS h0
      refine CodT.meet1 (fun a w => ∃ (x48 : Int), x48 = r1 ∧ Fr 220 [(0, .slice A_a0 a0.length c_a0), (2, .int .i64 a2), (14, .int .i64 x48)] a ∧ Inv w0 Z w (star (ownS 3 (cI .i64) 1 A_a0 c_a0 a0) A)) ?_ ?_
      ·
        refine CodT.block ?_
        refine (fun a ha => wp_loopN (fun k a w => ∃ (x49 : Int) (x50 : Int), slices_symMergeCmpFunc'.l2 a2 a0 a4_c1_v k x49 x50 = some r1 ∧ Fr 220 [(0, .slice A_a0 a0.length c_a0), (2, .int .i64 a2), (4, .func (.func 62) #[] #[.pointer (some ⟨b_a4_c0, 0, none⟩), .pointer (some ⟨b_a4_c1, 0, none⟩)]), (14, .int .i64 x49), (15, .int .i64 x50)] a ∧ Inv w0 Z w (star (ownS 3 (cI .i64) 1 A_a0 c_a0 a0) A)) ?_ FU a w ⟨a1, a2, h1, ha.keep [0, 2, 4, 14, 15] (by kernel_rfl), hI⟩)
        clear h1 hI
        rintro k a w ⟨x49, x50, h1, ha, hI⟩
        rcases k with _ | k
        · cases h1
        simp only [slices_symMergeCmpFunc'.l2] at h1
        refine CodT.of ?_ ha
        refine CodT.seq ?_
        refine CodT.seq ?_
        refine CodT.regionL [0, 1, 2] (by kernel_rfl) ?_
        refine OpsT.pures (r := []) [0, 1, 2] [0, 2, 4, 14, 15, 85] (S' := [(0, .slice A_a0 a0.length c_a0), (2, .int .i64 a2), (4, .func (.func 62) #[] #[.pointer (some ⟨b_a4_c0, 0, none⟩), .pointer (some ⟨b_a4_c1, 0, none⟩)]), (14, .int .i64 x49), (15, .int .i64 x50), (85, .bool (decide (x49 < x50)))]) (by kernel_rfl) ?_
        refine OpsT.done ?_
        refine Qn.then ?_
        by_cases hb51 : (decide (x49 < x50)) = true
        · rw [if_pos hb51] at h1
          refine CodT.yes' (b := decide (x49 < x50)) (by kernel_rfl) hb51 ?_
          refine CodT.skip ?_
          refine Qn.then ?_
          refine CodT.block ?_
          refine CodT.seq ?_
          refine CodT.regionL [0, 1, 2, 3, 4, 5, 6] (by kernel_rfl) ?_
          refine OpsT.pures (r := []) [0, 1, 2, 3, 4, 5, 6] [0, 2, 4, 14, 15, 16] (S' := [(0, .slice A_a0 a0.length c_a0), (2, .int .i64 a2), (4, .func (.func 62) #[] #[.pointer (some ⟨b_a4_c0, 0, none⟩), .pointer (some ⟨b_a4_c1, 0, none⟩)]), (14, .int .i64 x49), (15, .int .i64 x50), (16, .int .i64 (wi64 (bShr .u64 (wu64 (wi64 (x49 + x50))) 1)))]) (by kernel_rfl) ?_
          refine OpsT.done ?_
          refine Qn.then ?_
          refine CodT.seq ?_
          refine CodT.drawI (n := 12) [] (by kernel_rfl) (by kernel_rfl) hI ?_
          intro w hI
          refine GmT.p' 0 92 (.func (.func 62) #[] #[.pointer (some ⟨b_a4_c0, 0, none⟩), .pointer (some ⟨b_a4_c1, 0, none⟩)]) (by kernel_rfl) (by kernel_rfl) ?_
          refine GmT.p' 1 93 (.slice A_a0 a0.length c_a0) (by kernel_rfl) (by kernel_rfl) ?_
          refine GmT.p' 2 94 (.int .i64 a2) (by kernel_rfl) (by kernel_rfl) ?_
          refine GmT.p' 5 97 (.slice A_a0 a0.length c_a0) (by kernel_rfl) (by kernel_rfl) ?_
          refine GmT.p' 6 98 (.int .i64 (wi64 (bShr .u64 (wu64 (wi64 (x49 + x50))) 1))) (by kernel_rfl) (by kernel_rfl) ?_
          obtain ⟨hg52, h1⟩ := guardS h1
          obtain ⟨g53, hA54, hr55, hl56⟩ := ownS_get hI hg52.1 hg52.2
          refine GmT.r (i := 3) 2 (by kernel_rfl) (by kernel_rfl) (Yl.indexSlice (d := 95) (T := 40) (cc := c_a0) (k := .i64) (j := a2) (g := g53) (o := 0) (by kernel_rfl) Go.Proofs.Try.underlying40 ty3 hA54 hg52.1 hg52.2) hI ?_
          refine GmT.r (i := 4) 2 (by kernel_rfl) (by kernel_rfl) (Yl.load (d := 96) (T := 3) (v := .int .i64 (gt a0 a2)) (by kernel_rfl) (ldR ty3 (v := .int .i64 (gt a0 a2)) 0 (fun w hC => hr55 w0 w _ hC) (by kernel_rfl))) hI ?_
          obtain ⟨hg57, h1⟩ := guardS h1
          obtain ⟨g58, hA59, hr60, hl61⟩ := ownS_get hI hg57.1 hg57.2
          refine GmT.r (i := 7) 2 (by kernel_rfl) (by kernel_rfl) (Yl.indexSlice (d := 99) (T := 40) (cc := c_a0) (k := .i64) (j := wi64 (bShr .u64 (wu64 (wi64 (x49 + x50))) 1)) (g := g58) (o := 0) (by kernel_rfl) Go.Proofs.Try.underlying40 ty3 hA59 hg57.1 hg57.2) hI ?_
          refine GmT.r (i := 8) 2 (by kernel_rfl) (by kernel_rfl) (Yl.load (d := 100) (T := 3) (v := .int .i64 (gt a0 (wi64 (bShr .u64 (wu64 (wi64 (x49 + x50))) 1)))) (by kernel_rfl) (ldR ty3 (v := .int .i64 (gt a0 (wi64 (bShr .u64 (wu64 (wi64 (x49 + x50))) 1)))) 0 (fun w hC => hr60 w0 w _ hC) (by kernel_rfl))) hI ?_
          obtain ⟨y63, hc62, h1⟩ := bindS h1
          try dsimp only at h1
          refine GmT.o (i := 9) (by kernel_rfl) (Does.call (d := some 101) (n := 62) (vs := [.int .i64 (gt a0 a2), .int .i64 (gt a0 (wi64 (bShr .u64 (wu64 (wi64 (x49 + x50))) 1))), .pointer (some ⟨b_a4_c0, 0, none⟩), .pointer (some ⟨b_a4_c1, 0, none⟩)]) (by kernel_rfl) en62 (c62_2 w0 w _ _ hI (gt a0 a2) (gt a0 (wi64 (bShr .u64 (wu64 (wi64 (x49 + x50))) 1))) b_a4_c0 hz_a4_c0 b_a4_c1 A_a4_c1_v c_a4_c1_v a4_c1_v hr_a4_c1_v hz_a4_c1 _ hc62) ?_)
          rintro e w ⟨rfl, hI⟩
          refine ⟨_, rfl, ?_⟩
          refine ⟨fun _ _ => hI, ?_⟩
          refine GmT.p' 10 102 (.bool (decide (y63 < 0))) (by kernel_rfl) (by kernel_rfl) ?_
          refine GmT.p' 11 103 (.bool (!(decide (y63 < 0)))) (by kernel_rfl) (by kernel_rfl) ?_
          refine GmT.done (by kernel_rfl) ?_
          refine Qn.then ?_
          by_cases hb64 : (!(decide (y63 < 0))) = true
          · rw [if_pos hb64] at h1
            refine CodT.yes' (b := !(decide (y63 < 0))) (by kernel_rfl) hb64 ?_
            refine CodT.regionL [0, 1, 2] (by kernel_rfl) ?_
            refine OpsT.pures (r := []) [0, 1, 2] [0, 2, 4, 14, 15] (S' := [(0, .slice A_a0 a0.length c_a0), (2, .int .i64 a2), (4, .func (.func 62) #[] #[.pointer (some ⟨b_a4_c0, 0, none⟩), .pointer (some ⟨b_a4_c1, 0, none⟩)]), (14, .int .i64 (wi64 ((wi64 (bShr .u64 (wu64 (wi64 (x49 + x50))) 1)) + 1))), (15, .int .i64 x50)]) (by kernel_rfl) ?_
            refine OpsT.done ?_
            refine Qn.block_normal ?_
            exact Qn.thenJ fun a ha => ⟨k, Nat.lt_succ_self k, wi64 ((wi64 (bShr .u64 (wu64 (wi64 (x49 + x50))) 1)) + 1), x50, h1, ha.keep [0, 2, 4, 14, 15] (by kernel_rfl), hI⟩
          · rw [if_neg hb64] at h1
            refine CodT.no' (b := !(decide (y63 < 0))) (by kernel_rfl) (by simpa using hb64) ?_
            refine CodT.regionL [0, 1] (by kernel_rfl) ?_
            refine OpsT.pures (r := []) [0, 1] [0, 2, 4, 14, 15] (S' := [(0, .slice A_a0 a0.length c_a0), (2, .int .i64 a2), (4, .func (.func 62) #[] #[.pointer (some ⟨b_a4_c0, 0, none⟩), .pointer (some ⟨b_a4_c1, 0, none⟩)]), (14, .int .i64 x49), (15, .int .i64 (wi64 (bShr .u64 (wu64 (wi64 (x49 + x50))) 1)))]) (by kernel_rfl) ?_
            refine OpsT.done ?_
            refine Qn.block_normal ?_
            exact Qn.thenJ fun a ha => ⟨k, Nat.lt_succ_self k, x49, wi64 (bShr .u64 (wu64 (wi64 (x49 + x50))) 1), h1, ha.keep [0, 2, 4, 14, 15] (by kernel_rfl), hI⟩
        · rw [if_neg hb51] at h1
          refine CodT.no' (b := decide (x49 < x50)) (by kernel_rfl) (by simpa using hb51) ?_
          refine CodT.exit ?_
          refine Qn.exit_then ?_
          refine Qn.exit_then ?_
          refine Qn.block ?_
          have e := someS h1
          subst e
          exact Qn.thenJ fun a ha => ⟨x49, rfl, ha.keep [0, 2, 14] (by kernel_rfl), hI⟩
      ·
        rintro a w ⟨x48, rfl, ha, hI⟩
        try dsimp only at h0
        refine Qn.of ?_ ha
        refine Qn.then ?_
        refine CodT.seq ?_
        refine CodT.seq ?_
        refine CodT.regionL [0, 1] (by kernel_rfl) ?_
        refine OpsT.pures (r := []) [0, 1] [0, 14, 17] (S' := [(0, .slice A_a0 a0.length c_a0), (14, .int .i64 x48), (17, .int .i64 a2)]) (by kernel_rfl) ?_
        refine OpsT.done ?_
        refine Qn.then ?_
        obtain ⟨r1, h1, h0⟩ := bindS h0
        refine CodT.meet1 (fun a w => ∃ (x65 : (List Int)), x65 = r1 ∧ Fr 220 [] a ∧ Inv w0 Z w (star (ownS 3 (cI .i64) 1 A_a0 c_a0 x65) A)) ?_ ?_
        ·
          refine CodT.block ?_
          refine (fun a ha => wp_loopN (fun k a w => ∃ (x66 : (List Int)) (x70 : Int), slices_symMergeCmpFunc'.l3 x48 k x66 x70 = some r1 ∧ Fr 220 [(0, .slice A_a0 x66.length c_a0), (14, .int .i64 x48), (17, .int .i64 x70)] a ∧ Inv w0 Z w (star (ownS 3 (cI .i64) 1 A_a0 c_a0 x66) A)) ?_ FU a w ⟨a0, a2, h1, ha.keep [0, 14, 17] (by kernel_rfl), hI⟩)
          clear h1 hI
          rintro k a w ⟨x66, x70, h1, ha, hI⟩
          rcases k with _ | k
          · cases h1
          simp only [slices_symMergeCmpFunc'.l3] at h1
          refine CodT.of ?_ ha
          refine CodT.seq ?_
          refine CodT.seq ?_
          refine CodT.regionL [0, 1, 2] (by kernel_rfl) ?_
          refine OpsT.pures (r := []) [0, 1, 2] [0, 14, 17, 110] (S' := [(0, .slice A_a0 x66.length c_a0), (14, .int .i64 x48), (17, .int .i64 x70), (110, .bool (decide (x70 > x48)))]) (by kernel_rfl) ?_
          refine OpsT.done ?_
          refine Qn.then ?_
          by_cases hb71 : (decide (x70 > x48)) = true
          · rw [if_pos hb71] at h1
            refine CodT.yes' (b := decide (x70 > x48)) (by kernel_rfl) hb71 ?_
            refine CodT.skip ?_
            refine Qn.then ?_
            refine CodT.seq ?_
            refine CodT.block ?_
            refine CodT.drawI (n := 18) [15, 17] (by kernel_rfl) (by kernel_rfl) hI ?_
            intro w hI
            refine GmT.p' 0 113 (.slice A_a0 x66.length c_a0) (by kernel_rfl) (by kernel_rfl) ?_
            refine GmT.p' 1 114 (.int .i64 x70) (by kernel_rfl) (by kernel_rfl) ?_
            refine GmT.p' 2 115 (.slice A_a0 x66.length c_a0) (by kernel_rfl) (by kernel_rfl) ?_
            refine GmT.p' 3 116 (.int .i64 x70) (by kernel_rfl) (by kernel_rfl) ?_
            refine GmT.p' 4 117 (.int .i64 (wi64 (x70 - 1))) (by kernel_rfl) (by kernel_rfl) ?_
            refine GmT.p' 5 118 (.slice A_a0 x66.length c_a0) (by kernel_rfl) (by kernel_rfl) ?_
            refine GmT.p' 6 119 (.int .i64 x70) (by kernel_rfl) (by kernel_rfl) ?_
            refine GmT.p' 7 120 (.int .i64 (wi64 (x70 - 1))) (by kernel_rfl) (by kernel_rfl) ?_
            refine GmT.p' 10 123 (.slice A_a0 x66.length c_a0) (by kernel_rfl) (by kernel_rfl) ?_
            refine GmT.p' 11 124 (.int .i64 x70) (by kernel_rfl) (by kernel_rfl) ?_
            obtain ⟨hg72, h1⟩ := guardS h1
            obtain ⟨g73, hA74, hr75, hl76⟩ := ownS_get hI hg72.1 hg72.2
            refine GmT.r (i := 8) 2 (by kernel_rfl) (by kernel_rfl) (Yl.indexSlice (d := 121) (T := 40) (cc := c_a0) (k := .i64) (j := wi64 (x70 - 1)) (g := g73) (o := 0) (by kernel_rfl) Go.Proofs.Try.underlying40 ty3 hA74 hg72.1 hg72.2) hI ?_
            refine GmT.r (i := 9) 2 (by kernel_rfl) (by kernel_rfl) (Yl.load (d := 122) (T := 3) (v := .int .i64 (gt x66 (wi64 (x70 - 1)))) (by kernel_rfl) (ldR ty3 (v := .int .i64 (gt x66 (wi64 (x70 - 1)))) 0 (fun w hC => hr75 w0 w _ hC) (by kernel_rfl))) hI ?_
            obtain ⟨hg77, h1⟩ := guardS h1
            obtain ⟨g78, hA79, hr80, hl81⟩ := ownS_get hI hg77.1 hg77.2
            refine GmT.r (i := 12) 3 (by kernel_rfl) (by kernel_rfl) (Yl.indexSlice (d := 125) (T := 40) (cc := c_a0) (k := .i64) (j := x70) (g := g78) (o := 0) (by kernel_rfl) Go.Proofs.Try.underlying40 ty3 hA79 hg77.1 hg77.2) hI ?_
            refine GmT.r (i := 13) 2 (by kernel_rfl) (by kernel_rfl) (Yl.load (d := 126) (T := 3) (v := .int .i64 (gt x66 x70)) (by kernel_rfl) (ldR ty3 (v := .int .i64 (gt x66 x70)) 0 (fun w hC => hr80 w0 w _ hC) (by kernel_rfl))) hI ?_
            obtain ⟨hg82, h1⟩ := guardS h1
            obtain ⟨g83, hA84, hr85, hl86⟩ := ownS_get hI hg82.1 hg82.2
            refine GmT.r (i := 14) 2 (by kernel_rfl) (by kernel_rfl) (Yl.indexSlice (d := 127) (T := 40) (cc := c_a0) (k := .i64) (j := x70) (g := g83) (o := 0) (by kernel_rfl) Go.Proofs.Try.underlying40 ty3 hA84 hg82.1 hg82.2) hI ?_
            refine GmT.o (i := 15) (by kernel_rfl) (Does.storeElem (T := 3) (j := x70) (k := 0) (v := .int .i64 (gt x66 (wi64 (x70 - 1)))) (vs := [.int .i64 (gt x66 (wi64 (x70 - 1)))]) (gt x66 (wi64 (x70 - 1))) (by kernel_rfl) ty3 hA84 hI hg82.1 hg82.2 (by kernel_rfl) (by kernel_rfl) (by kernel_rfl) (by kernel_rfl) (by kernel_rfl) ?_)
            intro w hI
            refine ⟨fun h => absurd h (by decide), ?_⟩
            refine GmT.keep [0, 14, 17, 110, 113, 114, 115, 116, 117, 118, 119, 120, 122, 123, 124, 126] (S' := [(0, .slice A_a0 ((st x66 x70 (gt x66 (wi64 (x70 - 1)))).length) c_a0), (14, .int .i64 x48), (17, .int .i64 x70), (110, .bool (decide (x70 > x48))), (113, .slice A_a0 ((st x66 x70 (gt x66 (wi64 (x70 - 1)))).length) c_a0), (114, .int .i64 x70), (115, .slice A_a0 ((st x66 x70 (gt x66 (wi64 (x70 - 1)))).length) c_a0), (116, .int .i64 x70), (117, .int .i64 (wi64 (x70 - 1))), (118, .slice A_a0 ((st x66 x70 (gt x66 (wi64 (x70 - 1)))).length) c_a0), (119, .int .i64 x70), (120, .int .i64 (wi64 (x70 - 1))), (122, .int .i64 (gt x66 (wi64 (x70 - 1)))), (123, .slice A_a0 ((st x66 x70 (gt x66 (wi64 (x70 - 1)))).length) c_a0), (124, .int .i64 x70), (126, .int .i64 (gt x66 x70))]) (by simp only [st_length]; kernel_rfl) ?_
            obtain ⟨hg87, h1⟩ := guardS h1
            obtain ⟨g88, hA89, hr90, hl91⟩ := ownS_get hI hg87.1 hg87.2
            refine GmT.o (i := 16) (by kernel_rfl) (Does.yi (Yl.indexSlice (d := 128) (T := 40) (cc := c_a0) (k := .i64) (j := wi64 (x70 - 1)) (g := g88) (o := 0) (by kernel_rfl) Go.Proofs.Try.underlying40 ty3 hA89 hg87.1 hg87.2) hI ?_)
            refine ⟨fun _ h => h, ?_⟩
            refine GmT.o (i := 17) (by kernel_rfl) (Does.storeElem (T := 3) (j := wi64 (x70 - 1)) (k := 0) (v := .int .i64 (gt x66 x70)) (vs := [.int .i64 (gt x66 x70)]) (gt x66 x70) (by kernel_rfl) ty3 hA89 hI hg87.1 hg87.2 (by kernel_rfl) (by kernel_rfl) (by kernel_rfl) (by kernel_rfl) (by kernel_rfl) ?_)
            intro w hI
            refine ⟨fun h => absurd h (by decide), ?_⟩
            refine GmT.keep [0, 14, 17, 110, 113, 114, 115, 116, 117, 118, 119, 120, 122, 123, 124, 126] (S' := [(0, .slice A_a0 ((st (st x66 x70 (gt x66 (wi64 (x70 - 1)))) (wi64 (x70 - 1)) (gt x66 x70)).length) c_a0), (14, .int .i64 x48), (17, .int .i64 x70), (110, .bool (decide (x70 > x48))), (113, .slice A_a0 ((st (st x66 x70 (gt x66 (wi64 (x70 - 1)))) (wi64 (x70 - 1)) (gt x66 x70)).length) c_a0), (114, .int .i64 x70), (115, .slice A_a0 ((st (st x66 x70 (gt x66 (wi64 (x70 - 1)))) (wi64 (x70 - 1)) (gt x66 x70)).length) c_a0), (116, .int .i64 x70), (117, .int .i64 (wi64 (x70 - 1))), (118, .slice A_a0 ((st (st x66 x70 (gt x66 (wi64 (x70 - 1)))) (wi64 (x70 - 1)) (gt x66 x70)).length) c_a0), (119, .int .i64 x70), (120, .int .i64 (wi64 (x70 - 1))), (122, .int .i64 (gt x66 (wi64 (x70 - 1)))), (123, .slice A_a0 ((st (st x66 x70 (gt x66 (wi64 (x70 - 1)))) (wi64 (x70 - 1)) (gt x66 x70)).length) c_a0), (124, .int .i64 x70), (126, .int .i64 (gt x66 x70))]) (by simp only [st_length]; kernel_rfl) ?_
            refine GmT.done (by kernel_rfl) ?_
            refine Qn.block_normal ?_
            refine Qn.then ?_
            refine CodT.regionL [0, 1, 2] (by kernel_rfl) ?_
            refine OpsT.pures (r := []) [0, 1, 2] [0, 14, 17] (S' := [(0, .slice A_a0 ((st (st x66 x70 (gt x66 (wi64 (x70 - 1)))) (wi64 (x70 - 1)) (gt x66 x70)).length) c_a0), (14, .int .i64 x48), (17, .int .i64 (wi64 (x70 - 1)))]) (by kernel_rfl) ?_
            refine OpsT.done ?_
            exact Qn.thenJ fun a ha => ⟨k, Nat.lt_succ_self k, st (st x66 x70 (gt x66 (wi64 (x70 - 1)))) (wi64 (x70 - 1)) (gt x66 x70), wi64 (x70 - 1), h1, ha.keep [0, 14, 17] (by kernel_rfl), hI⟩
          · rw [if_neg hb71] at h1
            refine CodT.no' (b := decide (x70 > x48)) (by kernel_rfl) (by simpa using hb71) ?_
            refine CodT.exit ?_
            refine Qn.exit_then ?_
            refine Qn.exit_then ?_
            refine Qn.block ?_
            have e := someS h1
            subst e
            exact Qn.thenJ fun a ha => ⟨x66, rfl, ha.keep [] (by kernel_rfl), hI⟩
        ·
          rintro a w ⟨x65, rfl, ha, hI⟩
          try dsimp only at h0
          refine Qn.of ?_ ha
          refine Qn.then ?_
          refine CodT.ret ?_
          refine Qn.ret_then ?_
          obtain ⟨hg92, h0⟩ := guardS h0
          have e := someS h0
          subst e
          refine Qn.keep [] (S' := []) (by kernel_rfl) ?_
          exact post_ret (v := .tuple #[]) (fun a ha => RunRes.run (vs := []) .nil ha (by kernel_rfl)) ⟨rfl, hg92, hI⟩
    · rw [if_neg hb47] at h0
      refine CodT.no' (b := (wi64 (a3 - a2)) == 1) (by kernel_rfl) (by simpa using hb47) ?_
      refine CodT.skip ?_
      refine Qn.then ?_
      refine CodT.seq ?_
      refine CodT.regionL [0, 1, 2, 3, 4, 5, 6] (by kernel_rfl) ?_
      refine OpsT.pures (r := []) [0, 1, 2, 3, 4, 5, 6] [0, 1, 2, 3, 4, 18] (S' := [(0, .slice A_a0 a0.length c_a0), (1, .int .i64 a1), (2, .int .i64 a2), (3, .int .i64 a3), (4, .func (.func 62) #[] #[.pointer (some ⟨b_a4_c0, 0, none⟩), .pointer (some ⟨b_a4_c1, 0, none⟩)]), (18, .int .i64 (wi64 (bShr .u64 (wu64 (wi64 (a1 + a3))) 1)))]) (by kernel_rfl) ?_
      refine OpsT.done ?_
      refine Qn.then ?_
      refine CodT.seq ?_
      refine CodT.regionL [0, 1, 2, 3] (by kernel_rfl) ?_
      refine OpsT.pures (r := []) [0, 1, 2, 3] [0, 1, 2, 3, 4, 18, 19] (S' := [(0, .slice A_a0 a0.length c_a0), (1, .int .i64 a1), (2, .int .i64 a2), (3, .int .i64 a3), (4, .func (.func 62) #[] #[.pointer (some ⟨b_a4_c0, 0, none⟩), .pointer (some ⟨b_a4_c1, 0, none⟩)]), (18, .int .i64 (wi64 (bShr .u64 (wu64 (wi64 (a1 + a3))) 1))), (19, .int .i64 (wi64 ((wi64 (bShr .u64 (wu64 (wi64 (a1 + a3))) 1)) + a2)))]) (by kernel_rfl) ?_
      refine OpsT.done ?_
      refine Qn.then ?_
      refine CodT.seq ?_
      refine CodT.regionL [0, 1] (by kernel_rfl) ?_
      refine OpsT.pures (r := []) [0, 1] [0, 1, 2, 3, 4, 18, 19] (S' := [(0, .slice A_a0 a0.length c_a0), (1, .int .i64 a1), (2, .int .i64 a2), (3, .int .i64 a3), (4, .func (.func 62) #[] #[.pointer (some ⟨b_a4_c0, 0, none⟩), .pointer (some ⟨b_a4_c1, 0, none⟩)]), (18, .int .i64 (wi64 (bShr .u64 (wu64 (wi64 (a1 + a3))) 1))), (19, .int .i64 (wi64 ((wi64 (bShr .u64 (wu64 (wi64 (a1 + a3))) 1)) + a2)))]) (by kernel_rfl) ?_
      refine OpsT.done ?_
      refine Qn.then ?_
      obtain ⟨r1, h1, h0⟩ := bindS h0
      refine CodT.meet (fun a w => ∃ (x93 : Int) (x94 : Int), (x93, x94) = r1 ∧ Fr 220 [(0, .slice A_a0 a0.length c_a0), (1, .int .i64 a1), (2, .int .i64 a2), (3, .int .i64 a3), (4, .func (.func 62) #[] #[.pointer (some ⟨b_a4_c0, 0, none⟩), .pointer (some ⟨b_a4_c1, 0, none⟩)]), (18, .int .i64 (wi64 (bShr .u64 (wu64 (wi64 (a1 + a3))) 1))), (19, .int .i64 (wi64 ((wi64 (bShr .u64 (wu64 (wi64 (a1 + a3))) 1)) + a2))), (20, .int .i64 x93), (21, .int .i64 x94)] a ∧ Inv w0 Z w (star (ownS 3 (cI .i64) 1 A_a0 c_a0 a0) A)) ?_ ?_
      ·
        refine CodT.seq ?_
        refine CodT.regionL [0, 1, 2] (by kernel_rfl) ?_
        refine OpsT.pures (r := []) [0, 1, 2] [0, 1, 2, 3, 4, 18, 19, 140] (S' := [(0, .slice A_a0 a0.length c_a0), (1, .int .i64 a1), (2, .int .i64 a2), (3, .int .i64 a3), (4, .func (.func 62) #[] #[.pointer (some ⟨b_a4_c0, 0, none⟩), .pointer (some ⟨b_a4_c1, 0, none⟩)]), (18, .int .i64 (wi64 (bShr .u64 (wu64 (wi64 (a1 + a3))) 1))), (19, .int .i64 (wi64 ((wi64 (bShr .u64 (wu64 (wi64 (a1 + a3))) 1)) + a2))), (140, .bool (decide (a2 > (wi64 (bShr .u64 (wu64 (wi64 (a1 + a3))) 1)))))]) (by kernel_rfl) ?_
        refine OpsT.done ?_
        refine Qn.then ?_
        by_cases hb95 : (decide (a2 > (wi64 (bShr .u64 (wu64 (wi64 (a1 + a3))) 1)))) = true
        · rw [if_pos hb95] at h1
          refine CodT.yes' (b := decide (a2 > (wi64 (bShr .u64 (wu64 (wi64 (a1 + a3))) 1)))) (by kernel_rfl) hb95 ?_
          refine CodT.seq ?_
          refine CodT.regionL [0, 1, 2, 3] (by kernel_rfl) ?_
          refine OpsT.pures (r := []) [0, 1, 2, 3] [0, 1, 2, 3, 4, 18, 19, 20] (S' := [(0, .slice A_a0 a0.length c_a0), (1, .int .i64 a1), (2, .int .i64 a2), (3, .int .i64 a3), (4, .func (.func 62) #[] #[.pointer (some ⟨b_a4_c0, 0, none⟩), .pointer (some ⟨b_a4_c1, 0, none⟩)]), (18, .int .i64 (wi64 (bShr .u64 (wu64 (wi64 (a1 + a3))) 1))), (19, .int .i64 (wi64 ((wi64 (bShr .u64 (wu64 (wi64 (a1 + a3))) 1)) + a2))), (20, .int .i64 (wi64 ((wi64 ((wi64 (bShr .u64 (wu64 (wi64 (a1 + a3))) 1)) + a2)) - a3)))]) (by kernel_rfl) ?_
          refine OpsT.done ?_
          refine Qn.then ?_
          refine CodT.regionL [0, 1] (by kernel_rfl) ?_
          refine OpsT.pures (r := []) [0, 1] [0, 1, 2, 3, 4, 18, 19, 20, 21] (S' := [(0, .slice A_a0 a0.length c_a0), (1, .int .i64 a1), (2, .int .i64 a2), (3, .int .i64 a3), (4, .func (.func 62) #[] #[.pointer (some ⟨b_a4_c0, 0, none⟩), .pointer (some ⟨b_a4_c1, 0, none⟩)]), (18, .int .i64 (wi64 (bShr .u64 (wu64 (wi64 (a1 + a3))) 1))), (19, .int .i64 (wi64 ((wi64 (bShr .u64 (wu64 (wi64 (a1 + a3))) 1)) + a2))), (20, .int .i64 (wi64 ((wi64 ((wi64 (bShr .u64 (wu64 (wi64 (a1 + a3))) 1)) + a2)) - a3))), (21, .int .i64 (wi64 (bShr .u64 (wu64 (wi64 (a1 + a3))) 1)))]) (by kernel_rfl) ?_
          refine OpsT.done ?_
          have e := someS h1
          subst e
          exact Qn.thenJ fun a ha => ⟨wi64 ((wi64 ((wi64 (bShr .u64 (wu64 (wi64 (a1 + a3))) 1)) + a2)) - a3), wi64 (bShr .u64 (wu64 (wi64 (a1 + a3))) 1), rfl, ha.keep [0, 1, 2, 3, 4, 18, 19, 20, 21] (by kernel_rfl), hI⟩
        · rw [if_neg hb95] at h1
          refine CodT.no' (b := decide (a2 > (wi64 (bShr .u64 (wu64 (wi64 (a1 + a3))) 1)))) (by kernel_rfl) (by simpa using hb95) ?_
          refine CodT.seq ?_
          refine CodT.regionL [0, 1] (by kernel_rfl) ?_
          refine OpsT.pures (r := []) [0, 1] [0, 1, 2, 3, 4, 18, 19, 20] (S' := [(0, .slice A_a0 a0.length c_a0), (1, .int .i64 a1), (2, .int .i64 a2), (3, .int .i64 a3), (4, .func (.func 62) #[] #[.pointer (some ⟨b_a4_c0, 0, none⟩), .pointer (some ⟨b_a4_c1, 0, none⟩)]), (18, .int .i64 (wi64 (bShr .u64 (wu64 (wi64 (a1 + a3))) 1))), (19, .int .i64 (wi64 ((wi64 (bShr .u64 (wu64 (wi64 (a1 + a3))) 1)) + a2))), (20, .int .i64 a1)]) (by kernel_rfl) ?_
          refine OpsT.done ?_
          refine Qn.then ?_
          refine CodT.regionL [0, 1] (by kernel_rfl) ?_
          refine OpsT.pures (r := []) [0, 1] [0, 1, 2, 3, 4, 18, 19, 20, 21] (S' := [(0, .slice A_a0 a0.length c_a0), (1, .int .i64 a1), (2, .int .i64 a2), (3, .int .i64 a3), (4, .func (.func 62) #[] #[.pointer (some ⟨b_a4_c0, 0, none⟩), .pointer (some ⟨b_a4_c1, 0, none⟩)]), (18, .int .i64 (wi64 (bShr .u64 (wu64 (wi64 (a1 + a3))) 1))), (19, .int .i64 (wi64 ((wi64 (bShr .u64 (wu64 (wi64 (a1 + a3))) 1)) + a2))), (20, .int .i64 a1), (21, .int .i64 a2)]) (by kernel_rfl) ?_
          refine OpsT.done ?_
          have e := someS h1
          subst e
          exact Qn.thenJ fun a ha => ⟨a1, a2, rfl, ha.keep [0, 1, 2, 3, 4, 18, 19, 20, 21] (by kernel_rfl), hI⟩
      ·
        rintro a w ⟨x93, x94, rfl, ha, hI⟩
        try dsimp only at h0
        refine CodT.of ?_ ha
        refine CodT.seq ?_
        refine CodT.regionL [0, 1, 2] (by kernel_rfl) ?_
        refine OpsT.pures (r := []) [0, 1, 2] [0, 1, 2, 3, 4, 18, 19, 20, 21, 22] (S' := [(0, .slice A_a0 a0.length c_a0), (1, .int .i64 a1), (2, .int .i64 a2), (3, .int .i64 a3), (4, .func (.func 62) #[] #[.pointer (some ⟨b_a4_c0, 0, none⟩), .pointer (some ⟨b_a4_c1, 0, none⟩)]), (18, .int .i64 (wi64 (bShr .u64 (wu64 (wi64 (a1 + a3))) 1))), (19, .int .i64 (wi64 ((wi64 (bShr .u64 (wu64 (wi64 (a1 + a3))) 1)) + a2))), (20, .int .i64 x93), (21, .int .i64 x94), (22, .int .i64 (wi64 ((wi64 ((wi64 (bShr .u64 (wu64 (wi64 (a1 + a3))) 1)) + a2)) - 1)))]) (by kernel_rfl) ?_
        refine OpsT.done ?_
        refine Qn.then ?_
        refine CodT.seq ?_
        obtain ⟨r1, h1, h0⟩ := bindS h0
        refine CodT.meet1 (fun a w => ∃ (x96 : Int), x96 = r1 ∧ Fr 220 [(0, .slice A_a0 a0.length c_a0), (1, .int .i64 a1), (2, .int .i64 a2), (3, .int .i64 a3), (4, .func (.func 62) #[] #[.pointer (some ⟨b_a4_c0, 0, none⟩), .pointer (some ⟨b_a4_c1, 0, none⟩)]), (18, .int .i64 (wi64 (bShr .u64 (wu64 (wi64 (a1 + a3))) 1))), (19, .int .i64 (wi64 ((wi64 (bShr .u64 (wu64 (wi64 (a1 + a3))) 1)) + a2))), (20, .int .i64 x96)] a ∧ Inv w0 Z w (star (ownS 3 (cI .i64) 1 A_a0 c_a0 a0) A)) ?_ ?_
        ·
          refine CodT.block ?_
          refine (fun a ha => wp_loopN (fun k a w => ∃ (x97 : Int) (x98 : Int), slices_symMergeCmpFunc'.l4 a1 a3 a2 a0 a4_c1_v k x97 x98 = some r1 ∧ Fr 220 [(0, .slice A_a0 a0.length c_a0), (1, .int .i64 a1), (2, .int .i64 a2), (3, .int .i64 a3), (4, .func (.func 62) #[] #[.pointer (some ⟨b_a4_c0, 0, none⟩), .pointer (some ⟨b_a4_c1, 0, none⟩)]), (18, .int .i64 (wi64 (bShr .u64 (wu64 (wi64 (a1 + a3))) 1))), (19, .int .i64 (wi64 ((wi64 (bShr .u64 (wu64 (wi64 (a1 + a3))) 1)) + a2))), (20, .int .i64 x97), (21, .int .i64 x98), (22, .int .i64 (wi64 ((wi64 ((wi64 (bShr .u64 (wu64 (wi64 (a1 + a3))) 1)) + a2)) - 1)))] a ∧ Inv w0 Z w (star (ownS 3 (cI .i64) 1 A_a0 c_a0 a0) A)) ?_ FU a w ⟨x93, x94, h1, ha.keep [0, 1, 2, 3, 4, 18, 19, 20, 21, 22] (by kernel_rfl), hI⟩)
          clear h1 hI
          rintro k a w ⟨x97, x98, h1, ha, hI⟩
          rcases k with _ | k
          · cases h1
          simp only [slices_symMergeCmpFunc'.l4] at h1
          refine CodT.of ?_ ha
          refine CodT.seq ?_
          refine CodT.seq ?_
          refine CodT.regionL [0, 1, 2] (by kernel_rfl) ?_
          refine OpsT.pures (r := []) [0, 1, 2] [0, 1, 2, 3, 4, 18, 19, 20, 21, 22, 151] (S' := [(0, .slice A_a0 a0.length c_a0), (1, .int .i64 a1), (2, .int .i64 a2), (3, .int .i64 a3), (4, .func (.func 62) #[] #[.pointer (some ⟨b_a4_c0, 0, none⟩), .pointer (some ⟨b_a4_c1, 0, none⟩)]), (18, .int .i64 (wi64 (bShr .u64 (wu64 (wi64 (a1 + a3))) 1))), (19, .int .i64 (wi64 ((wi64 (bShr .u64 (wu64 (wi64 (a1 + a3))) 1)) + a2))), (20, .int .i64 x97), (21, .int .i64 x98), (22, .int .i64 (wi64 ((wi64 ((wi64 (bShr .u64 (wu64 (wi64 (a1 + a3))) 1)) + a2)) - 1))), (151, .bool (decide (x97 < x98)))]) (by kernel_rfl) ?_
          refine OpsT.done ?_
          refine Qn.then ?_
          by_cases hb99 : (decide (x97 < x98)) = true
          · rw [if_pos hb99] at h1
            refine CodT.yes' (b := decide (x97 < x98)) (by kernel_rfl) hb99 ?_
            refine CodT.skip ?_
            refine Qn.then ?_
            refine CodT.block ?_
            refine CodT.seq ?_
            refine CodT.regionL [0, 1, 2, 3, 4, 5, 6] (by kernel_rfl) ?_
            refine OpsT.pures (r := []) [0, 1, 2, 3, 4, 5, 6] [0, 1, 2, 3, 4, 18, 19, 20, 21, 22, 23] (S' := [(0, .slice A_a0 a0.length c_a0), (1, .int .i64 a1), (2, .int .i64 a2), (3, .int .i64 a3), (4, .func (.func 62) #[] #[.pointer (some ⟨b_a4_c0, 0, none⟩), .pointer (some ⟨b_a4_c1, 0, none⟩)]), (18, .int .i64 (wi64 (bShr .u64 (wu64 (wi64 (a1 + a3))) 1))), (19, .int .i64 (wi64 ((wi64 (bShr .u64 (wu64 (wi64 (a1 + a3))) 1)) + a2))), (20, .int .i64 x97), (21, .int .i64 x98), (22, .int .i64 (wi64 ((wi64 ((wi64 (bShr .u64 (wu64 (wi64 (a1 + a3))) 1)) + a2)) - 1))), (23, .int .i64 (wi64 (bShr .u64 (wu64 (wi64 (x97 + x98))) 1)))]) (by kernel_rfl) ?_
            refine OpsT.done ?_
            refine Qn.then ?_
            refine CodT.seq ?_
            refine CodT.drawI (n := 14) [] (by kernel_rfl) (by kernel_rfl) hI ?_
            intro w hI
            refine GmT.p' 0 158 (.func (.func 62) #[] #[.pointer (some ⟨b_a4_c0, 0, none⟩), .pointer (some ⟨b_a4_c1, 0, none⟩)]) (by kernel_rfl) (by kernel_rfl) ?_
            refine GmT.p' 1 159 (.slice A_a0 a0.length c_a0) (by kernel_rfl) (by kernel_rfl) ?_
            refine GmT.p' 2 160 (.int .i64 (wi64 ((wi64 ((wi64 (bShr .u64 (wu64 (wi64 (a1 + a3))) 1)) + a2)) - 1))) (by kernel_rfl) (by kernel_rfl) ?_
            refine GmT.p' 3 161 (.int .i64 (wi64 (bShr .u64 (wu64 (wi64 (x97 + x98))) 1))) (by kernel_rfl) (by kernel_rfl) ?_
            refine GmT.p' 4 162 (.int .i64 (wi64 ((wi64 ((wi64 ((wi64 (bShr .u64 (wu64 (wi64 (a1 + a3))) 1)) + a2)) - 1)) - (wi64 (bShr .u64 (wu64 (wi64 (x97 + x98))) 1))))) (by kernel_rfl) (by kernel_rfl) ?_
            refine GmT.p' 7 165 (.slice A_a0 a0.length c_a0) (by kernel_rfl) (by kernel_rfl) ?_
            refine GmT.p' 8 166 (.int .i64 (wi64 (bShr .u64 (wu64 (wi64 (x97 + x98))) 1))) (by kernel_rfl) (by kernel_rfl) ?_
            obtain ⟨hg100, h1⟩ := guardS h1
            obtain ⟨g101, hA102, hr103, hl104⟩ := ownS_get hI hg100.1 hg100.2
            refine GmT.r (i := 5) 2 (by kernel_rfl) (by kernel_rfl) (Yl.indexSlice (d := 163) (T := 40) (cc := c_a0) (k := .i64) (j := wi64 ((wi64 ((wi64 ((wi64 (bShr .u64 (wu64 (wi64 (a1 + a3))) 1)) + a2)) - 1)) - (wi64 (bShr .u64 (wu64 (wi64 (x97 + x98))) 1)))) (g := g101) (o := 0) (by kernel_rfl) Go.Proofs.Try.underlying40 ty3 hA102 hg100.1 hg100.2) hI ?_
            refine GmT.r (i := 6) 2 (by kernel_rfl) (by kernel_rfl) (Yl.load (d := 164) (T := 3) (v := .int .i64 (gt a0 (wi64 ((wi64 ((wi64 ((wi64 (bShr .u64 (wu64 (wi64 (a1 + a3))) 1)) + a2)) - 1)) - (wi64 (bShr .u64 (wu64 (wi64 (x97 + x98))) 1)))))) (by kernel_rfl) (ldR ty3 (v := .int .i64 (gt a0 (wi64 ((wi64 ((wi64 ((wi64 (bShr .u64 (wu64 (wi64 (a1 + a3))) 1)) + a2)) - 1)) - (wi64 (bShr .u64 (wu64 (wi64 (x97 + x98))) 1)))))) 0 (fun w hC => hr103 w0 w _ hC) (by kernel_rfl))) hI ?_
            obtain ⟨hg105, h1⟩ := guardS h1
            obtain ⟨g106, hA107, hr108, hl109⟩ := ownS_get hI hg105.1 hg105.2
            refine GmT.r (i := 9) 2 (by kernel_rfl) (by kernel_rfl) (Yl.indexSlice (d := 167) (T := 40) (cc := c_a0) (k := .i64) (j := wi64 (bShr .u64 (wu64 (wi64 (x97 + x98))) 1)) (g := g106) (o := 0) (by kernel_rfl) Go.Proofs.Try.underlying40 ty3 hA107 hg105.1 hg105.2) hI ?_
            refine GmT.r (i := 10) 2 (by kernel_rfl) (by kernel_rfl) (Yl.load (d := 168) (T := 3) (v := .int .i64 (gt a0 (wi64 (bShr .u64 (wu64 (wi64 (x97 + x98))) 1)))) (by kernel_rfl) (ldR ty3 (v := .int .i64 (gt a0 (wi64 (bShr .u64 (wu64 (wi64 (x97 + x98))) 1)))) 0 (fun w hC => hr108 w0 w _ hC) (by kernel_rfl))) hI ?_
            obtain ⟨y111, hc110, h1⟩ := bindS h1
            try dsimp only at h1
            refine GmT.o (i := 11) (by kernel_rfl) (Does.call (d := some 169) (n := 62) (vs := [.int .i64 (gt a0 (wi64 ((wi64 ((wi64 ((wi64 (bShr .u64 (wu64 (wi64 (a1 + a3))) 1)) + a2)) - 1)) - (wi64 (bShr .u64 (wu64 (wi64 (x97 + x98))) 1))))), .int .i64 (gt a0 (wi64 (bShr .u64 (wu64 (wi64 (x97 + x98))) 1))), .pointer (some ⟨b_a4_c0, 0, none⟩), .pointer (some ⟨b_a4_c1, 0, none⟩)]) (by kernel_rfl) en62 (c62_2 w0 w _ _ hI (gt a0 (wi64 ((wi64 ((wi64 ((wi64 (bShr .u64 (wu64 (wi64 (a1 + a3))) 1)) + a2)) - 1)) - (wi64 (bShr .u64 (wu64 (wi64 (x97 + x98))) 1))))) (gt a0 (wi64 (bShr .u64 (wu64 (wi64 (x97 + x98))) 1))) b_a4_c0 hz_a4_c0 b_a4_c1 A_a4_c1_v c_a4_c1_v a4_c1_v hr_a4_c1_v hz_a4_c1 _ hc110) ?_)
            rintro e w ⟨rfl, hI⟩
            refine ⟨_, rfl, ?_⟩
            refine ⟨fun _ _ => hI, ?_⟩
            refine GmT.p' 12 170 (.bool (decide (y111 < 0))) (by kernel_rfl) (by kernel_rfl) ?_
            refine GmT.p' 13 171 (.bool (!(decide (y111 < 0)))) (by kernel_rfl) (by kernel_rfl) ?_
            refine GmT.done (by kernel_rfl) ?_
            refine Qn.then ?_
            by_cases hb112 : (!(decide (y111 < 0))) = true
            · rw [if_pos hb112] at h1
              refine CodT.yes' (b := !(decide (y111 < 0))) (by kernel_rfl) hb112 ?_
              refine CodT.regionL [0, 1, 2] (by kernel_rfl) ?_
              refine OpsT.pures (r := []) [0, 1, 2] [0, 1, 2, 3, 4, 18, 19, 20, 21, 22] (S' := [(0, .slice A_a0 a0.length c_a0), (1, .int .i64 a1), (2, .int .i64 a2), (3, .int .i64 a3), (4, .func (.func 62) #[] #[.pointer (some ⟨b_a4_c0, 0, none⟩), .pointer (some ⟨b_a4_c1, 0, none⟩)]), (18, .int .i64 (wi64 (bShr .u64 (wu64 (wi64 (a1 + a3))) 1))), (19, .int .i64 (wi64 ((wi64 (bShr .u64 (wu64 (wi64 (a1 + a3))) 1)) + a2))), (20, .int .i64 (wi64 ((wi64 (bShr .u64 (wu64 (wi64 (x97 + x98))) 1)) + 1))), (21, .int .i64 x98), (22, .int .i64 (wi64 ((wi64 ((wi64 (bShr .u64 (wu64 (wi64 (a1 + a3))) 1)) + a2)) - 1)))]) (by kernel_rfl) ?_
              refine OpsT.done ?_
              refine Qn.block_normal ?_
              exact Qn.thenJ fun a ha => ⟨k, Nat.lt_succ_self k, wi64 ((wi64 (bShr .u64 (wu64 (wi64 (x97 + x98))) 1)) + 1), x98, h1, ha.keep [0, 1, 2, 3, 4, 18, 19, 20, 21, 22] (by kernel_rfl), hI⟩
            · rw [if_neg hb112] at h1
              refine CodT.no' (b := !(decide (y111 < 0))) (by kernel_rfl) (by simpa using hb112) ?_
              refine CodT.regionL [0, 1] (by kernel_rfl) ?_
              refine OpsT.pures (r := []) [0, 1] [0, 1, 2, 3, 4, 18, 19, 20, 21, 22] (S' := [(0, .slice A_a0 a0.length c_a0), (1, .int .i64 a1), (2, .int .i64 a2), (3, .int .i64 a3), (4, .func (.func 62) #[] #[.pointer (some ⟨b_a4_c0, 0, none⟩), .pointer (some ⟨b_a4_c1, 0, none⟩)]), (18, .int .i64 (wi64 (bShr .u64 (wu64 (wi64 (a1 + a3))) 1))), (19, .int .i64 (wi64 ((wi64 (bShr .u64 (wu64 (wi64 (a1 + a3))) 1)) + a2))), (20, .int .i64 x97), (21, .int .i64 (wi64 (bShr .u64 (wu64 (wi64 (x97 + x98))) 1))), (22, .int .i64 (wi64 ((wi64 ((wi64 (bShr .u64 (wu64 (wi64 (a1 + a3))) 1)) + a2)) - 1)))]) (by kernel_rfl) ?_
              refine OpsT.done ?_
              refine Qn.block_normal ?_
              exact Qn.thenJ fun a ha => ⟨k, Nat.lt_succ_self k, x97, wi64 (bShr .u64 (wu64 (wi64 (x97 + x98))) 1), h1, ha.keep [0, 1, 2, 3, 4, 18, 19, 20, 21, 22] (by kernel_rfl), hI⟩
          · rw [if_neg hb99] at h1
            refine CodT.no' (b := decide (x97 < x98)) (by kernel_rfl) (by simpa using hb99) ?_
            refine CodT.exit ?_
            refine Qn.exit_then ?_
            refine Qn.exit_then ?_
            refine Qn.block ?_
            have e := someS h1
            subst e
            exact Qn.thenJ fun a ha => ⟨x97, rfl, ha.keep [0, 1, 2, 3, 4, 18, 19, 20] (by kernel_rfl), hI⟩
        ·
          rintro a w ⟨x96, rfl, ha, hI⟩
          try dsimp only at h0
          refine Qn.of ?_ ha
          refine Qn.then ?_
          refine CodT.seq ?_
          refine CodT.regionL [0, 1, 2, 3] (by kernel_rfl) ?_
          refine OpsT.pures (r := []) [0, 1, 2, 3] [0, 1, 2, 3, 4, 18, 20, 24] (S' := [(0, .slice A_a0 a0.length c_a0), (1, .int .i64 a1), (2, .int .i64 a2), (3, .int .i64 a3), (4, .func (.func 62) #[] #[.pointer (some ⟨b_a4_c0, 0, none⟩), .pointer (some ⟨b_a4_c1, 0, none⟩)]), (18, .int .i64 (wi64 (bShr .u64 (wu64 (wi64 (a1 + a3))) 1))), (20, .int .i64 x96), (24, .int .i64 (wi64 ((wi64 ((wi64 (bShr .u64 (wu64 (wi64 (a1 + a3))) 1)) + a2)) - x96)))]) (by kernel_rfl) ?_
          refine OpsT.done ?_
          refine Qn.then ?_
          obtain ⟨r1, h1, h0⟩ := bindS h0
          refine CodT.meet (fun a w => ∃ (x113 : (List Int)), x113 = r1 ∧ Fr 220 [(0, .slice A_a0 x113.length c_a0), (1, .int .i64 a1), (3, .int .i64 a3), (4, .func (.func 62) #[] #[.pointer (some ⟨b_a4_c0, 0, none⟩), .pointer (some ⟨b_a4_c1, 0, none⟩)]), (18, .int .i64 (wi64 (bShr .u64 (wu64 (wi64 (a1 + a3))) 1))), (20, .int .i64 x96), (24, .int .i64 (wi64 ((wi64 ((wi64 (bShr .u64 (wu64 (wi64 (a1 + a3))) 1)) + a2)) - x96)))] a ∧ Inv w0 Z w (star (ownS 3 (cI .i64) 1 A_a0 c_a0 x113) A)) ?_ ?_
          ·
            obtain ⟨r2, h2, h1⟩ := bindS h1
            refine CodT.meet (fun a w => ∃ (x117 : Bool), x117 = r2 ∧ Fr 220 [(0, .slice A_a0 a0.length c_a0), (1, .int .i64 a1), (2, .int .i64 a2), (3, .int .i64 a3), (4, .func (.func 62) #[] #[.pointer (some ⟨b_a4_c0, 0, none⟩), .pointer (some ⟨b_a4_c1, 0, none⟩)]), (18, .int .i64 (wi64 (bShr .u64 (wu64 (wi64 (a1 + a3))) 1))), (20, .int .i64 x96), (24, .int .i64 (wi64 ((wi64 ((wi64 (bShr .u64 (wu64 (wi64 (a1 + a3))) 1)) + a2)) - x96))), (185, .bool x117)] a ∧ Inv w0 Z w (star (ownS 3 (cI .i64) 1 A_a0 c_a0 a0) A)) ?_ ?_
            ·
              refine CodT.regionL [0, 1, 2, 3, 4, 5, 6, 7] (by kernel_rfl) ?_
              refine OpsT.pures (r := [4, 5, 6, 7]) [0, 1, 2, 3] [0, 1, 2, 3, 4, 18, 20, 24, 181] (S' := [(0, .slice A_a0 a0.length c_a0), (1, .int .i64 a1), (2, .int .i64 a2), (3, .int .i64 a3), (4, .func (.func 62) #[] #[.pointer (some ⟨b_a4_c0, 0, none⟩), .pointer (some ⟨b_a4_c1, 0, none⟩)]), (18, .int .i64 (wi64 (bShr .u64 (wu64 (wi64 (a1 + a3))) 1))), (20, .int .i64 x96), (24, .int .i64 (wi64 ((wi64 ((wi64 (bShr .u64 (wu64 (wi64 (a1 + a3))) 1)) + a2)) - x96))), (181, .bool (decide (x96 < a2)))]) (by kernel_rfl) ?_
              by_cases hb118 : (decide (x96 < a2)) = true
              · rw [if_pos hb118] at h2
                refine OpsT.keep [0, 1, 2, 3, 4, 18, 20, 24, 181] (S' := [(0, .slice A_a0 a0.length c_a0), (1, .int .i64 a1), (2, .int .i64 a2), (3, .int .i64 a3), (4, .func (.func 62) #[] #[.pointer (some ⟨b_a4_c0, 0, none⟩), .pointer (some ⟨b_a4_c1, 0, none⟩)]), (18, .int .i64 (wi64 (bShr .u64 (wu64 (wi64 (a1 + a3))) 1))), (20, .int .i64 x96), (24, .int .i64 (wi64 ((wi64 ((wi64 (bShr .u64 (wu64 (wi64 (a1 + a3))) 1)) + a2)) - x96))), (181, .bool true)]) (by simp only [hb118]; kernel_rfl) ?_
                refine OpsT.pures (r := []) [4, 5, 6, 7] [0, 1, 2, 3, 4, 18, 20, 24, 185] (S' := [(0, .slice A_a0 a0.length c_a0), (1, .int .i64 a1), (2, .int .i64 a2), (3, .int .i64 a3), (4, .func (.func 62) #[] #[.pointer (some ⟨b_a4_c0, 0, none⟩), .pointer (some ⟨b_a4_c1, 0, none⟩)]), (18, .int .i64 (wi64 (bShr .u64 (wu64 (wi64 (a1 + a3))) 1))), (20, .int .i64 x96), (24, .int .i64 (wi64 ((wi64 ((wi64 (bShr .u64 (wu64 (wi64 (a1 + a3))) 1)) + a2)) - x96))), (185, .bool (decide (a2 < (wi64 ((wi64 ((wi64 (bShr .u64 (wu64 (wi64 (a1 + a3))) 1)) + a2)) - x96)))))]) (by kernel_rfl) ?_
                refine OpsT.done ?_
                have e := someS h2
                subst e
                exact Qn.thenJ fun a ha => ⟨decide (a2 < (wi64 ((wi64 ((wi64 (bShr .u64 (wu64 (wi64 (a1 + a3))) 1)) + a2)) - x96))), rfl, ha.keep [0, 1, 2, 3, 4, 18, 20, 24, 185] (by kernel_rfl), hI⟩
              · rw [if_neg hb118] at h2
                have hb118 : (decide (x96 < a2)) = false := by simpa using hb118
                refine OpsT.keep [0, 1, 2, 3, 4, 18, 20, 24, 181] (S' := [(0, .slice A_a0 a0.length c_a0), (1, .int .i64 a1), (2, .int .i64 a2), (3, .int .i64 a3), (4, .func (.func 62) #[] #[.pointer (some ⟨b_a4_c0, 0, none⟩), .pointer (some ⟨b_a4_c1, 0, none⟩)]), (18, .int .i64 (wi64 (bShr .u64 (wu64 (wi64 (a1 + a3))) 1))), (20, .int .i64 x96), (24, .int .i64 (wi64 ((wi64 ((wi64 (bShr .u64 (wu64 (wi64 (a1 + a3))) 1)) + a2)) - x96))), (181, .bool false)]) (by simp only [hb118]; kernel_rfl) ?_
                refine OpsT.pures (r := []) [4, 5, 6, 7] [0, 1, 2, 3, 4, 18, 20, 24, 185] (S' := [(0, .slice A_a0 a0.length c_a0), (1, .int .i64 a1), (2, .int .i64 a2), (3, .int .i64 a3), (4, .func (.func 62) #[] #[.pointer (some ⟨b_a4_c0, 0, none⟩), .pointer (some ⟨b_a4_c1, 0, none⟩)]), (18, .int .i64 (wi64 (bShr .u64 (wu64 (wi64 (a1 + a3))) 1))), (20, .int .i64 x96), (24, .int .i64 (wi64 ((wi64 ((wi64 (bShr .u64 (wu64 (wi64 (a1 + a3))) 1)) + a2)) - x96))), (185, .bool false)]) (by kernel_rfl) ?_
                refine OpsT.done ?_
                have e := someS h2
                subst e
                exact Qn.thenJ fun a ha => ⟨false, rfl, ha.keep [0, 1, 2, 3, 4, 18, 20, 24, 185] (by kernel_rfl), hI⟩
            ·
              rintro a w ⟨x117, rfl, ha, hI⟩
              try dsimp only at h1
              refine CodT.of ?_ ha
              by_cases hb119 : x117 = true
              · rw [if_pos hb119] at h1
                refine CodT.yes' (b := x117) (by kernel_rfl) hb119 ?_
                refine CodT.regionL [0, 1, 2, 3, 4, 5] (by kernel_rfl) ?_
                refine OpsT.pures (r := [5]) [0, 1, 2, 3, 4] [0, 1, 3, 4, 18, 20, 24, 186, 187, 188, 189, 190] (S' := [(0, .slice A_a0 a0.length c_a0), (1, .int .i64 a1), (3, .int .i64 a3), (4, .func (.func 62) #[] #[.pointer (some ⟨b_a4_c0, 0, none⟩), .pointer (some ⟨b_a4_c1, 0, none⟩)]), (18, .int .i64 (wi64 (bShr .u64 (wu64 (wi64 (a1 + a3))) 1))), (20, .int .i64 x96), (24, .int .i64 (wi64 ((wi64 ((wi64 (bShr .u64 (wu64 (wi64 (a1 + a3))) 1)) + a2)) - x96))), (186, .slice A_a0 a0.length c_a0), (187, .int .i64 x96), (188, .int .i64 a2), (189, .int .i64 (wi64 ((wi64 ((wi64 (bShr .u64 (wu64 (wi64 (a1 + a3))) 1)) + a2)) - x96))), (190, .func (.func 62) #[] #[.pointer (some ⟨b_a4_c0, 0, none⟩), .pointer (some ⟨b_a4_c1, 0, none⟩)])]) (by kernel_rfl) ?_
                obtain ⟨y121, hc120, h1⟩ := bindS h1
                try dsimp only at h1
                refine OpsT.cons (Does.call (d := some 191) (n := 72) (vs := [.slice A_a0 a0.length c_a0, .int .i64 x96, .int .i64 a2, .int .i64 (wi64 ((wi64 ((wi64 (bShr .u64 (wu64 (wi64 (a1 + a3))) 1)) + a2)) - x96)), .func (.func 62) #[] #[.pointer (some ⟨b_a4_c0, 0, none⟩), .pointer (some ⟨b_a4_c1, 0, none⟩)]]) (by kernel_rfl) en72 (c72_2 w0 w _ _ A_a0 c_a0 a0 x96 a2 (wi64 ((wi64 ((wi64 (bShr .u64 (wu64 (wi64 (a1 + a3))) 1)) + a2)) - x96)) b_a4_c0 hz_a4_c0 b_a4_c1 A_a4_c1_v c_a4_c1_v a4_c1_v hr_a4_c1_v hz_a4_c1 hI _ hc120) ?_)
                rintro e w ⟨rfl, hm122, hI⟩
                refine ⟨_, rfl, ?_⟩
                refine OpsT.keep [0, 1, 3, 4, 18, 20, 24, 186, 187, 188, 189, 190, 191] (S' := [(0, .slice A_a0 y121.length c_a0), (1, .int .i64 a1), (3, .int .i64 a3), (4, .func (.func 62) #[] #[.pointer (some ⟨b_a4_c0, 0, none⟩), .pointer (some ⟨b_a4_c1, 0, none⟩)]), (18, .int .i64 (wi64 (bShr .u64 (wu64 (wi64 (a1 + a3))) 1))), (20, .int .i64 x96), (24, .int .i64 (wi64 ((wi64 ((wi64 (bShr .u64 (wu64 (wi64 (a1 + a3))) 1)) + a2)) - x96))), (186, .slice A_a0 y121.length c_a0), (187, .int .i64 x96), (188, .int .i64 a2), (189, .int .i64 (wi64 ((wi64 ((wi64 (bShr .u64 (wu64 (wi64 (a1 + a3))) 1)) + a2)) - x96))), (190, .func (.func 62) #[] #[.pointer (some ⟨b_a4_c0, 0, none⟩), .pointer (some ⟨b_a4_c1, 0, none⟩)]), (191, .tuple #[])]) (by simp only [hm122]; kernel_rfl) ?_
                refine OpsT.done ?_
                have e := someS h1
                subst e
                exact Qn.thenJ fun a ha => ⟨y121, rfl, ha.keep [0, 1, 3, 4, 18, 20, 24] (by kernel_rfl), hI⟩
              · rw [if_neg hb119] at h1
                refine CodT.no' (b := x117) (by kernel_rfl) (by simpa using hb119) ?_
                refine CodT.skip ?_
                have e := someS h1
                subst e
                exact Qn.thenJ fun a ha => ⟨a0, rfl, ha.keep [0, 1, 3, 4, 18, 20, 24] (by kernel_rfl), hI⟩
          ·
            rintro a w ⟨x113, rfl, ha, hI⟩
            try dsimp only at h0
            refine CodT.of ?_ ha
            obtain ⟨r1, h1, h0⟩ := bindS h0
            refine CodT.meet (fun a w => ∃ (x123 : (List Int)), x123 = r1 ∧ Fr 220 [(0, .slice A_a0 x123.length c_a0), (3, .int .i64 a3), (4, .func (.func 62) #[] #[.pointer (some ⟨b_a4_c0, 0, none⟩), .pointer (some ⟨b_a4_c1, 0, none⟩)]), (18, .int .i64 (wi64 (bShr .u64 (wu64 (wi64 (a1 + a3))) 1))), (24, .int .i64 (wi64 ((wi64 ((wi64 (bShr .u64 (wu64 (wi64 (a1 + a3))) 1)) + a2)) - x96)))] a ∧ Inv w0 Z w (star (ownS 3 (cI .i64) 1 A_a0 c_a0 x123) A)) ?_ ?_
            ·
              obtain ⟨r2, h2, h1⟩ := bindS h1
              refine CodT.meet (fun a w => ∃ (x127 : Bool), x127 = r2 ∧ Fr 220 [(0, .slice A_a0 x113.length c_a0), (1, .int .i64 a1), (3, .int .i64 a3), (4, .func (.func 62) #[] #[.pointer (some ⟨b_a4_c0, 0, none⟩), .pointer (some ⟨b_a4_c1, 0, none⟩)]), (18, .int .i64 (wi64 (bShr .u64 (wu64 (wi64 (a1 + a3))) 1))), (20, .int .i64 x96), (24, .int .i64 (wi64 ((wi64 ((wi64 (bShr .u64 (wu64 (wi64 (a1 + a3))) 1)) + a2)) - x96))), (199, .bool x127)] a ∧ Inv w0 Z w (star (ownS 3 (cI .i64) 1 A_a0 c_a0 x113) A)) ?_ ?_
              ·
                refine CodT.regionL [0, 1, 2, 3, 4, 5, 6, 7] (by kernel_rfl) ?_
                refine OpsT.pures (r := [4, 5, 6, 7]) [0, 1, 2, 3] [0, 1, 3, 4, 18, 20, 24, 195] (S' := [(0, .slice A_a0 x113.length c_a0), (1, .int .i64 a1), (3, .int .i64 a3), (4, .func (.func 62) #[] #[.pointer (some ⟨b_a4_c0, 0, none⟩), .pointer (some ⟨b_a4_c1, 0, none⟩)]), (18, .int .i64 (wi64 (bShr .u64 (wu64 (wi64 (a1 + a3))) 1))), (20, .int .i64 x96), (24, .int .i64 (wi64 ((wi64 ((wi64 (bShr .u64 (wu64 (wi64 (a1 + a3))) 1)) + a2)) - x96))), (195, .bool (decide (a1 < x96)))]) (by kernel_rfl) ?_
                by_cases hb128 : (decide (a1 < x96)) = true
                · rw [if_pos hb128] at h2
                  refine OpsT.keep [0, 1, 3, 4, 18, 20, 24, 195] (S' := [(0, .slice A_a0 x113.length c_a0), (1, .int .i64 a1), (3, .int .i64 a3), (4, .func (.func 62) #[] #[.pointer (some ⟨b_a4_c0, 0, none⟩), .pointer (some ⟨b_a4_c1, 0, none⟩)]), (18, .int .i64 (wi64 (bShr .u64 (wu64 (wi64 (a1 + a3))) 1))), (20, .int .i64 x96), (24, .int .i64 (wi64 ((wi64 ((wi64 (bShr .u64 (wu64 (wi64 (a1 + a3))) 1)) + a2)) - x96))), (195, .bool true)]) (by simp only [hb128]; kernel_rfl) ?_
                  refine OpsT.pures (r := []) [4, 5, 6, 7] [0, 1, 3, 4, 18, 20, 24, 199] (S' := [(0, .slice A_a0 x113.length c_a0), (1, .int .i64 a1), (3, .int .i64 a3), (4, .func (.func 62) #[] #[.pointer (some ⟨b_a4_c0, 0, none⟩), .pointer (some ⟨b_a4_c1, 0, none⟩)]), (18, .int .i64 (wi64 (bShr .u64 (wu64 (wi64 (a1 + a3))) 1))), (20, .int .i64 x96), (24, .int .i64 (wi64 ((wi64 ((wi64 (bShr .u64 (wu64 (wi64 (a1 + a3))) 1)) + a2)) - x96))), (199, .bool (decide (x96 < (wi64 (bShr .u64 (wu64 (wi64 (a1 + a3))) 1)))))]) (by kernel_rfl) ?_
                  refine OpsT.done ?_
                  have e := someS h2
                  subst e
                  exact Qn.thenJ fun a ha => ⟨decide (x96 < (wi64 (bShr .u64 (wu64 (wi64 (a1 + a3))) 1))), rfl, ha.keep [0, 1, 3, 4, 18, 20, 24, 199] (by kernel_rfl), hI⟩
                · rw [if_neg hb128] at h2
                  have hb128 : (decide (a1 < x96)) = false := by simpa using hb128
                  refine OpsT.keep [0, 1, 3, 4, 18, 20, 24, 195] (S' := [(0, .slice A_a0 x113.length c_a0), (1, .int .i64 a1), (3, .int .i64 a3), (4, .func (.func 62) #[] #[.pointer (some ⟨b_a4_c0, 0, none⟩), .pointer (some ⟨b_a4_c1, 0, none⟩)]), (18, .int .i64 (wi64 (bShr .u64 (wu64 (wi64 (a1 + a3))) 1))), (20, .int .i64 x96), (24, .int .i64 (wi64 ((wi64 ((wi64 (bShr .u64 (wu64 (wi64 (a1 + a3))) 1)) + a2)) - x96))), (195, .bool false)]) (by simp only [hb128]; kernel_rfl) ?_
                  refine OpsT.pures (r := []) [4, 5, 6, 7] [0, 1, 3, 4, 18, 20, 24, 199] (S' := [(0, .slice A_a0 x113.length c_a0), (1, .int .i64 a1), (3, .int .i64 a3), (4, .func (.func 62) #[] #[.pointer (some ⟨b_a4_c0, 0, none⟩), .pointer (some ⟨b_a4_c1, 0, none⟩)]), (18, .int .i64 (wi64 (bShr .u64 (wu64 (wi64 (a1 + a3))) 1))), (20, .int .i64 x96), (24, .int .i64 (wi64 ((wi64 ((wi64 (bShr .u64 (wu64 (wi64 (a1 + a3))) 1)) + a2)) - x96))), (199, .bool false)]) (by kernel_rfl) ?_
                  refine OpsT.done ?_
                  have e := someS h2
                  subst e
                  exact Qn.thenJ fun a ha => ⟨false, rfl, ha.keep [0, 1, 3, 4, 18, 20, 24, 199] (by kernel_rfl), hI⟩
              ·
                rintro a w ⟨x127, rfl, ha, hI⟩
                try dsimp only at h1
                refine CodT.of ?_ ha
                by_cases hb129 : x127 = true
                · rw [if_pos hb129] at h1
                  refine CodT.yes' (b := x127) (by kernel_rfl) hb129 ?_
                  refine CodT.regionL [0, 1, 2, 3, 4, 5] (by kernel_rfl) ?_
                  refine OpsT.pures (r := [5]) [0, 1, 2, 3, 4] [0, 3, 4, 18, 24, 200, 201, 202, 203, 204] (S' := [(0, .slice A_a0 x113.length c_a0), (3, .int .i64 a3), (4, .func (.func 62) #[] #[.pointer (some ⟨b_a4_c0, 0, none⟩), .pointer (some ⟨b_a4_c1, 0, none⟩)]), (18, .int .i64 (wi64 (bShr .u64 (wu64 (wi64 (a1 + a3))) 1))), (24, .int .i64 (wi64 ((wi64 ((wi64 (bShr .u64 (wu64 (wi64 (a1 + a3))) 1)) + a2)) - x96))), (200, .slice A_a0 x113.length c_a0), (201, .int .i64 a1), (202, .int .i64 x96), (203, .int .i64 (wi64 (bShr .u64 (wu64 (wi64 (a1 + a3))) 1))), (204, .func (.func 62) #[] #[.pointer (some ⟨b_a4_c0, 0, none⟩), .pointer (some ⟨b_a4_c1, 0, none⟩)])]) (by kernel_rfl) ?_
                  obtain ⟨y131, hc130, h1⟩ := bindS h1
                  try dsimp only at h1
                  refine OpsT.cons (Does.call (d := some 205) (n := 71) (vs := [.slice A_a0 x113.length c_a0, .int .i64 a1, .int .i64 x96, .int .i64 (wi64 (bShr .u64 (wu64 (wi64 (a1 + a3))) 1)), .func (.func 62) #[] #[.pointer (some ⟨b_a4_c0, 0, none⟩), .pointer (some ⟨b_a4_c1, 0, none⟩)]]) (by kernel_rfl) en71 (ih w0 w _ _ A_a0 c_a0 x113 a1 x96 (wi64 (bShr .u64 (wu64 (wi64 (a1 + a3))) 1)) b_a4_c0 hz_a4_c0 b_a4_c1 A_a4_c1_v c_a4_c1_v a4_c1_v hr_a4_c1_v hz_a4_c1 hI _ hc130) ?_)
                  rintro e w ⟨rfl, hm132, hI⟩
                  refine ⟨_, rfl, ?_⟩
                  refine OpsT.keep [0, 3, 4, 18, 24, 200, 201, 202, 203, 204, 205] (S' := [(0, .slice A_a0 y131.length c_a0), (3, .int .i64 a3), (4, .func (.func 62) #[] #[.pointer (some ⟨b_a4_c0, 0, none⟩), .pointer (some ⟨b_a4_c1, 0, none⟩)]), (18, .int .i64 (wi64 (bShr .u64 (wu64 (wi64 (a1 + a3))) 1))), (24, .int .i64 (wi64 ((wi64 ((wi64 (bShr .u64 (wu64 (wi64 (a1 + a3))) 1)) + a2)) - x96))), (200, .slice A_a0 y131.length c_a0), (201, .int .i64 a1), (202, .int .i64 x96), (203, .int .i64 (wi64 (bShr .u64 (wu64 (wi64 (a1 + a3))) 1))), (204, .func (.func 62) #[] #[.pointer (some ⟨b_a4_c0, 0, none⟩), .pointer (some ⟨b_a4_c1, 0, none⟩)]), (205, .tuple #[])]) (by simp only [hm132]; kernel_rfl) ?_
                  refine OpsT.done ?_
                  have e := someS h1
                  subst e
                  exact Qn.thenJ fun a ha => ⟨y131, rfl, ha.keep [0, 3, 4, 18, 24] (by kernel_rfl), hI⟩
                · rw [if_neg hb129] at h1
                  refine CodT.no' (b := x127) (by kernel_rfl) (by simpa using hb129) ?_
                  refine CodT.skip ?_
                  have e := someS h1
                  subst e
                  exact Qn.thenJ fun a ha => ⟨x113, rfl, ha.keep [0, 3, 4, 18, 24] (by kernel_rfl), hI⟩
            ·
              rintro a w ⟨x123, rfl, ha, hI⟩
              try dsimp only at h0
              refine CodT.of ?_ ha
              obtain ⟨r1, h1, h0⟩ := bindS h0
              refine CodT.meet (fun a w => ∃ (x133 : Bool), x133 = r1 ∧ Fr 220 [(0, .slice A_a0 x123.length c_a0), (3, .int .i64 a3), (4, .func (.func 62) #[] #[.pointer (some ⟨b_a4_c0, 0, none⟩), .pointer (some ⟨b_a4_c1, 0, none⟩)]), (18, .int .i64 (wi64 (bShr .u64 (wu64 (wi64 (a1 + a3))) 1))), (24, .int .i64 (wi64 ((wi64 ((wi64 (bShr .u64 (wu64 (wi64 (a1 + a3))) 1)) + a2)) - x96))), (213, .bool x133)] a ∧ Inv w0 Z w (star (ownS 3 (cI .i64) 1 A_a0 c_a0 x123) A)) ?_ ?_
              ·
                refine CodT.regionL [0, 1, 2, 3, 4, 5, 6, 7] (by kernel_rfl) ?_
                refine OpsT.pures (r := [4, 5, 6, 7]) [0, 1, 2, 3] [0, 3, 4, 18, 24, 209] (S' := [(0, .slice A_a0 x123.length c_a0), (3, .int .i64 a3), (4, .func (.func 62) #[] #[.pointer (some ⟨b_a4_c0, 0, none⟩), .pointer (some ⟨b_a4_c1, 0, none⟩)]), (18, .int .i64 (wi64 (bShr .u64 (wu64 (wi64 (a1 + a3))) 1))), (24, .int .i64 (wi64 ((wi64 ((wi64 (bShr .u64 (wu64 (wi64 (a1 + a3))) 1)) + a2)) - x96))), (209, .bool (decide ((wi64 (bShr .u64 (wu64 (wi64 (a1 + a3))) 1)) < (wi64 ((wi64 ((wi64 (bShr .u64 (wu64 (wi64 (a1 + a3))) 1)) + a2)) - x96)))))]) (by kernel_rfl) ?_
                by_cases hb134 : (decide ((wi64 (bShr .u64 (wu64 (wi64 (a1 + a3))) 1)) < (wi64 ((wi64 ((wi64 (bShr .u64 (wu64 (wi64 (a1 + a3))) 1)) + a2)) - x96)))) = true
                · rw [if_pos hb134] at h1
                  refine OpsT.keep [0, 3, 4, 18, 24, 209] (S' := [(0, .slice A_a0 x123.length c_a0), (3, .int .i64 a3), (4, .func (.func 62) #[] #[.pointer (some ⟨b_a4_c0, 0, none⟩), .pointer (some ⟨b_a4_c1, 0, none⟩)]), (18, .int .i64 (wi64 (bShr .u64 (wu64 (wi64 (a1 + a3))) 1))), (24, .int .i64 (wi64 ((wi64 ((wi64 (bShr .u64 (wu64 (wi64 (a1 + a3))) 1)) + a2)) - x96))), (209, .bool true)]) (by simp only [hb134]; kernel_rfl) ?_
                  refine OpsT.pures (r := []) [4, 5, 6, 7] [0, 3, 4, 18, 24, 213] (S' := [(0, .slice A_a0 x123.length c_a0), (3, .int .i64 a3), (4, .func (.func 62) #[] #[.pointer (some ⟨b_a4_c0, 0, none⟩), .pointer (some ⟨b_a4_c1, 0, none⟩)]), (18, .int .i64 (wi64 (bShr .u64 (wu64 (wi64 (a1 + a3))) 1))), (24, .int .i64 (wi64 ((wi64 ((wi64 (bShr .u64 (wu64 (wi64 (a1 + a3))) 1)) + a2)) - x96))), (213, .bool (decide ((wi64 ((wi64 ((wi64 (bShr .u64 (wu64 (wi64 (a1 + a3))) 1)) + a2)) - x96)) < a3)))]) (by kernel_rfl) ?_
                  refine OpsT.done ?_
                  have e := someS h1
                  subst e
                  exact Qn.thenJ fun a ha => ⟨decide ((wi64 ((wi64 ((wi64 (bShr .u64 (wu64 (wi64 (a1 + a3))) 1)) + a2)) - x96)) < a3), rfl, ha.keep [0, 3, 4, 18, 24, 213] (by kernel_rfl), hI⟩
                · rw [if_neg hb134] at h1
                  have hb134 : (decide ((wi64 (bShr .u64 (wu64 (wi64 (a1 + a3))) 1)) < (wi64 ((wi64 ((wi64 (bShr .u64 (wu64 (wi64 (a1 + a3))) 1)) + a2)) - x96)))) = false := by simpa using hb134
                  refine OpsT.keep [0, 3, 4, 18, 24, 209] (S' := [(0, .slice A_a0 x123.length c_a0), (3, .int .i64 a3), (4, .func (.func 62) #[] #[.pointer (some ⟨b_a4_c0, 0, none⟩), .pointer (some ⟨b_a4_c1, 0, none⟩)]), (18, .int .i64 (wi64 (bShr .u64 (wu64 (wi64 (a1 + a3))) 1))), (24, .int .i64 (wi64 ((wi64 ((wi64 (bShr .u64 (wu64 (wi64 (a1 + a3))) 1)) + a2)) - x96))), (209, .bool false)]) (by simp only [hb134]; kernel_rfl) ?_
                  refine OpsT.pures (r := []) [4, 5, 6, 7] [0, 3, 4, 18, 24, 213] (S' := [(0, .slice A_a0 x123.length c_a0), (3, .int .i64 a3), (4, .func (.func 62) #[] #[.pointer (some ⟨b_a4_c0, 0, none⟩), .pointer (some ⟨b_a4_c1, 0, none⟩)]), (18, .int .i64 (wi64 (bShr .u64 (wu64 (wi64 (a1 + a3))) 1))), (24, .int .i64 (wi64 ((wi64 ((wi64 (bShr .u64 (wu64 (wi64 (a1 + a3))) 1)) + a2)) - x96))), (213, .bool false)]) (by kernel_rfl) ?_
                  refine OpsT.done ?_
                  have e := someS h1
                  subst e
                  exact Qn.thenJ fun a ha => ⟨false, rfl, ha.keep [0, 3, 4, 18, 24, 213] (by kernel_rfl), hI⟩
              ·
                rintro a w ⟨x133, rfl, ha, hI⟩
                try dsimp only at h0
                refine CodT.of ?_ ha
                by_cases hb135 : x133 = true
                · rw [if_pos hb135] at h0
                  refine CodT.yes' (b := x133) (by kernel_rfl) hb135 ?_
                  refine CodT.regionL [0, 1, 2, 3, 4, 5] (by kernel_rfl) ?_
                  refine OpsT.pures (r := [5]) [0, 1, 2, 3, 4] [214, 215, 216, 217, 218] (S' := [(214, .slice A_a0 x123.length c_a0), (215, .int .i64 (wi64 (bShr .u64 (wu64 (wi64 (a1 + a3))) 1))), (216, .int .i64 (wi64 ((wi64 ((wi64 (bShr .u64 (wu64 (wi64 (a1 + a3))) 1)) + a2)) - x96))), (217, .int .i64 a3), (218, .func (.func 62) #[] #[.pointer (some ⟨b_a4_c0, 0, none⟩), .pointer (some ⟨b_a4_c1, 0, none⟩)])]) (by kernel_rfl) ?_
                  obtain ⟨y137, hc136, h0⟩ := bindS h0
                  try dsimp only at h0
                  refine OpsT.cons (Does.call (d := some 219) (n := 71) (vs := [.slice A_a0 x123.length c_a0, .int .i64 (wi64 (bShr .u64 (wu64 (wi64 (a1 + a3))) 1)), .int .i64 (wi64 ((wi64 ((wi64 (bShr .u64 (wu64 (wi64 (a1 + a3))) 1)) + a2)) - x96)), .int .i64 a3, .func (.func 62) #[] #[.pointer (some ⟨b_a4_c0, 0, none⟩), .pointer (some ⟨b_a4_c1, 0, none⟩)]]) (by kernel_rfl) en71 (ih w0 w _ _ A_a0 c_a0 x123 (wi64 (bShr .u64 (wu64 (wi64 (a1 + a3))) 1)) (wi64 ((wi64 ((wi64 (bShr .u64 (wu64 (wi64 (a1 + a3))) 1)) + a2)) - x96)) a3 b_a4_c0 hz_a4_c0 b_a4_c1 A_a4_c1_v c_a4_c1_v a4_c1_v hr_a4_c1_v hz_a4_c1 hI _ hc136) ?_)
                  rintro e w ⟨rfl, hm138, hI⟩
                  refine ⟨_, rfl, ?_⟩
                  refine OpsT.keep [214, 215, 216, 217, 218, 219] (S' := [(214, .slice A_a0 y137.length c_a0), (215, .int .i64 (wi64 (bShr .u64 (wu64 (wi64 (a1 + a3))) 1))), (216, .int .i64 (wi64 ((wi64 ((wi64 (bShr .u64 (wu64 (wi64 (a1 + a3))) 1)) + a2)) - x96))), (217, .int .i64 a3), (218, .func (.func 62) #[] #[.pointer (some ⟨b_a4_c0, 0, none⟩), .pointer (some ⟨b_a4_c1, 0, none⟩)]), (219, .tuple #[])]) (by simp only [hm138]; kernel_rfl) ?_
                  refine OpsT.done ?_
                  obtain ⟨hg139, h0⟩ := guardS h0
                  have e := someS h0
                  subst e
                  refine Qn.keep [] (S' := []) (by kernel_rfl) ?_
                  exact post_normal (v := .tuple #[]) (fun a ha => RunRes.run (vs := []) .nil ha (by kernel_rfl)) ⟨rfl, hg139, hI⟩
                · rw [if_neg hb135] at h0
                  refine CodT.no' (b := x133) (by kernel_rfl) (by simpa using hb135) ?_
                  refine CodT.skip ?_
                  obtain ⟨hg140, h0⟩ := guardS h0
                  have e := someS h0
                  subst e
                  refine Qn.keep [] (S' := []) (by kernel_rfl) ?_
                  exact post_normal (v := .tuple #[]) (fun a ha => RunRes.run (vs := []) .nil ha (by kernel_rfl)) ⟨rfl, hg140, hI⟩
set_option maxRecDepth 100000 in
set_option maxHeartbeats 4000000 in
/-- slices.stableCmpFunc[int] -/
theorem c67_2 (w0 w : World) (Z : Hp) (A : HP) (A_a0 : Option Addr) (c_a0 : Nat) (a0 : (List Int)) (a1 : Int) (b_a2_c0 : Nat) (hz_a2_c0 : Z b_a2_c0 = some (.cells ([.func (.func 52) #[] #[]]).toArray 64 (0, 0))) (b_a2_c1 : Nat) (A_a2_c1_v : Option Addr) (c_a2_c1_v : Nat) (a2_c1_v : (List PoolUse)) (hr_a2_c1_v : RdS Z c_PoolUse 5 A_a2_c1_v c_a2_c1_v a2_c1_v) (hz_a2_c1 : Z b_a2_c1 = some (.cells ([.slice A_a2_c1_v a2_c1_v.length c_a2_c1_v]).toArray 35 (0, 0))) (hI : Inv w0 Z w (star (ownS 3 (cI .i64) 1 A_a0 c_a0 a0) A)) (r : (List Int)) (h0 : slices_stableCmpFunc' a0 a1 a2_c1_v = some r) :
    Calls prog 67 #[.slice A_a0 a0.length c_a0, .int .i64 a1, .func (.func 62) #[] #[.pointer (some ⟨b_a2_c0, 0, none⟩), .pointer (some ⟨b_a2_c1, 0, none⟩)]] w (fun e w' => e = .returned (.tuple #[]) ∧ r.length = a0.length ∧ Inv w0 Z w' (star (ownS 3 (cI .i64) 1 A_a0 c_a0 r) A)) := by
  refine calls_intro (args := [.slice A_a0 a0.length c_a0, .int .i64 a1, .func (.func 62) #[] #[.pointer (some ⟨b_a2_c0, 0, none⟩), .pointer (some ⟨b_a2_c1, 0, none⟩)]]) (fn := Go.Proofs.Try.f67) 63 Go.Proofs.Try.func67 (by rfl) Go.Proofs.Try.ntmps67 (by kernel_rfl) ?_
  unfold slices_stableCmpFunc' at h0
  refine CodT.seq ?_
  refine CodT.regionL [0] (by kernel_rfl) ?_
  refine OpsT.pures (r := []) [0] [0, 1, 2, 6] (S' := [(0, .slice A_a0 a0.length c_a0), (1, .int .i64 a1), (2, .func (.func 62) #[] #[.pointer (some ⟨b_a2_c0, 0, none⟩), .pointer (some ⟨b_a2_c1, 0, none⟩)]), (6, .int .i64 20)]) (by kernel_rfl) ?_
  refine OpsT.done ?_
  refine Qn.then ?_
  refine CodT.seq ?_
  refine CodT.regionL [0, 1, 2] (by kernel_rfl) ?_
  refine OpsT.pures (r := []) [0, 1, 2] [0, 1, 2, 6, 7, 8] (S' := [(0, .slice A_a0 a0.length c_a0), (1, .int .i64 a1), (2, .func (.func 62) #[] #[.pointer (some ⟨b_a2_c0, 0, none⟩), .pointer (some ⟨b_a2_c1, 0, none⟩)]), (6, .int .i64 20), (7, .int .i64 0), (8, .int .i64 20)]) (by kernel_rfl) ?_
  refine OpsT.done ?_
  refine Qn.then ?_
  refine CodT.seq ?_
  obtain ⟨r1, h1, h0⟩ := bindS h0
  refine CodT.meet1 (fun a w => ∃ (x1 : (List Int)) (x5 : Int), (x1, x5) = r1 ∧ Fr 63 [(0, .slice A_a0 x1.length c_a0), (1, .int .i64 a1), (2, .func (.func 62) #[] #[.pointer (some ⟨b_a2_c0, 0, none⟩), .pointer (some ⟨b_a2_c1, 0, none⟩)]), (6, .int .i64 20), (7, .int .i64 x5)] a ∧ Inv w0 Z w (star (ownS 3 (cI .i64) 1 A_a0 c_a0 x1) A)) ?_ ?_
  ·
    refine CodT.block ?_
    refine (fun a ha => wp_loopN (fun k a w => ∃ (x6 : (List Int)) (x10 : Int) (x11 : Int), slices_stableCmpFunc'.l0 a1 a2_c1_v k x6 x10 x11 = some r1 ∧ Fr 63 [(0, .slice A_a0 x6.length c_a0), (1, .int .i64 a1), (2, .func (.func 62) #[] #[.pointer (some ⟨b_a2_c0, 0, none⟩), .pointer (some ⟨b_a2_c1, 0, none⟩)]), (6, .int .i64 20), (7, .int .i64 x10), (8, .int .i64 x11)] a ∧ Inv w0 Z w (star (ownS 3 (cI .i64) 1 A_a0 c_a0 x6) A)) ?_ FU a w ⟨a0, 0, 20, h1, ha.keep [0, 1, 2, 6, 7, 8] (by kernel_rfl), hI⟩)
    clear h1 hI
    rintro k a w ⟨x6, x10, x11, h1, ha, hI⟩
    rcases k with _ | k
    · cases h1
    simp only [slices_stableCmpFunc'.l0] at h1
    refine CodT.of ?_ ha
    refine CodT.seq ?_
    refine CodT.seq ?_
    refine CodT.regionL [0, 1, 2] (by kernel_rfl) ?_
    refine OpsT.pures (r := []) [0, 1, 2] [0, 1, 2, 6, 7, 8, 13] (S' := [(0, .slice A_a0 x6.length c_a0), (1, .int .i64 a1), (2, .func (.func 62) #[] #[.pointer (some ⟨b_a2_c0, 0, none⟩), .pointer (some ⟨b_a2_c1, 0, none⟩)]), (6, .int .i64 20), (7, .int .i64 x10), (8, .int .i64 x11), (13, .bool (decide (x11 ≤ a1)))]) (by kernel_rfl) ?_
    refine OpsT.done ?_
    refine Qn.then ?_
    by_cases hb12 : (decide (x11 ≤ a1)) = true
    · rw [if_pos hb12] at h1
      refine CodT.yes' (b := decide (x11 ≤ a1)) (by kernel_rfl) hb12 ?_
      refine CodT.skip ?_
      refine Qn.then ?_
      refine CodT.block ?_
      refine CodT.seq ?_
      refine CodT.regionL [0, 1, 2, 3, 4] (by kernel_rfl) ?_
      refine OpsT.pures (r := [4]) [0, 1, 2, 3] [0, 1, 2, 6, 8, 14, 15, 16, 17] (S' := [(0, .slice A_a0 x6.length c_a0), (1, .int .i64 a1), (2, .func (.func 62) #[] #[.pointer (some ⟨b_a2_c0, 0, none⟩), .pointer (some ⟨b_a2_c1, 0, none⟩)]), (6, .int .i64 20), (8, .int .i64 x11), (14, .slice A_a0 x6.length c_a0), (15, .int .i64 x10), (16, .int .i64 x11), (17, .func (.func 62) #[] #[.pointer (some ⟨b_a2_c0, 0, none⟩), .pointer (some ⟨b_a2_c1, 0, none⟩)])]) (by kernel_rfl) ?_
      obtain ⟨y14, hc13, h1⟩ := bindS h1
      try dsimp only at h1
      refine OpsT.cons (Does.call (d := some 18) (n := 70) (vs := [.slice A_a0 x6.length c_a0, .int .i64 x10, .int .i64 x11, .func (.func 62) #[] #[.pointer (some ⟨b_a2_c0, 0, none⟩), .pointer (some ⟨b_a2_c1, 0, none⟩)]]) (by kernel_rfl) en70 (c70_2 w0 w _ _ A_a0 c_a0 x6 x10 x11 b_a2_c0 hz_a2_c0 b_a2_c1 A_a2_c1_v c_a2_c1_v a2_c1_v hr_a2_c1_v hz_a2_c1 hI _ hc13) ?_)
      rintro e w ⟨rfl, hm15, hI⟩
      refine ⟨_, rfl, ?_⟩
      refine OpsT.keep [0, 1, 2, 6, 8, 14, 15, 16, 17, 18] (S' := [(0, .slice A_a0 y14.length c_a0), (1, .int .i64 a1), (2, .func (.func 62) #[] #[.pointer (some ⟨b_a2_c0, 0, none⟩), .pointer (some ⟨b_a2_c1, 0, none⟩)]), (6, .int .i64 20), (8, .int .i64 x11), (14, .slice A_a0 y14.length c_a0), (15, .int .i64 x10), (16, .int .i64 x11), (17, .func (.func 62) #[] #[.pointer (some ⟨b_a2_c0, 0, none⟩), .pointer (some ⟨b_a2_c1, 0, none⟩)]), (18, .tuple #[])]) (by simp only [hm15]; kernel_rfl) ?_
      refine OpsT.done ?_
      refine Qn.then ?_
      refine CodT.seq ?_
      refine CodT.regionL [0, 1] (by kernel_rfl) ?_
      refine OpsT.pures (r := []) [0, 1] [0, 1, 2, 6, 7, 8] (S' := [(0, .slice A_a0 y14.length c_a0), (1, .int .i64 a1), (2, .func (.func 62) #[] #[.pointer (some ⟨b_a2_c0, 0, none⟩), .pointer (some ⟨b_a2_c1, 0, none⟩)]), (6, .int .i64 20), (7, .int .i64 x11), (8, .int .i64 x11)]) (by kernel_rfl) ?_
      refine OpsT.done ?_
      refine Qn.then ?_
      refine CodT.regionL [0, 1, 2, 3] (by kernel_rfl) ?_
      refine OpsT.pures (r := []) [0, 1, 2, 3] [0, 1, 2, 6, 7, 8] (S' := [(0, .slice A_a0 y14.length c_a0), (1, .int .i64 a1), (2, .func (.func 62) #[] #[.pointer (some ⟨b_a2_c0, 0, none⟩), .pointer (some ⟨b_a2_c1, 0, none⟩)]), (6, .int .i64 20), (7, .int .i64 x11), (8, .int .i64 (wi64 (x11 + 20)))]) (by kernel_rfl) ?_
      refine OpsT.done ?_
      refine Qn.block_normal ?_
      exact Qn.thenJ fun a ha => ⟨k, Nat.lt_succ_self k, y14, x11, wi64 (x11 + 20), h1, ha.keep [0, 1, 2, 6, 7, 8] (by kernel_rfl), hI⟩
    · rw [if_neg hb12] at h1
      refine CodT.no' (b := decide (x11 ≤ a1)) (by kernel_rfl) (by simpa using hb12) ?_
      refine CodT.exit ?_
      refine Qn.exit_then ?_
      refine Qn.exit_then ?_
      refine Qn.block ?_
      have e := someS h1
      subst e
      exact Qn.thenJ fun a ha => ⟨x6, x10, rfl, ha.keep [0, 1, 2, 6, 7] (by kernel_rfl), hI⟩
  ·
    rintro a w ⟨x1, x5, rfl, ha, hI⟩
    try dsimp only at h0
    refine Qn.of ?_ ha
    refine Qn.then ?_
    refine CodT.seq ?_
    refine CodT.regionL [0, 1, 2, 3, 4] (by kernel_rfl) ?_
    refine OpsT.pures (r := [4]) [0, 1, 2, 3] [0, 1, 2, 6, 23, 24, 25, 26] (S' := [(0, .slice A_a0 x1.length c_a0), (1, .int .i64 a1), (2, .func (.func 62) #[] #[.pointer (some ⟨b_a2_c0, 0, none⟩), .pointer (some ⟨b_a2_c1, 0, none⟩)]), (6, .int .i64 20), (23, .slice A_a0 x1.length c_a0), (24, .int .i64 x5), (25, .int .i64 a1), (26, .func (.func 62) #[] #[.pointer (some ⟨b_a2_c0, 0, none⟩), .pointer (some ⟨b_a2_c1, 0, none⟩)])]) (by kernel_rfl) ?_
    obtain ⟨y17, hc16, h0⟩ := bindS h0
    try dsimp only at h0
    refine OpsT.cons (Does.call (d := some 27) (n := 70) (vs := [.slice A_a0 x1.length c_a0, .int .i64 x5, .int .i64 a1, .func (.func 62) #[] #[.pointer (some ⟨b_a2_c0, 0, none⟩), .pointer (some ⟨b_a2_c1, 0, none⟩)]]) (by kernel_rfl) en70 (c70_2 w0 w _ _ A_a0 c_a0 x1 x5 a1 b_a2_c0 hz_a2_c0 b_a2_c1 A_a2_c1_v c_a2_c1_v a2_c1_v hr_a2_c1_v hz_a2_c1 hI _ hc16) ?_)
    rintro e w ⟨rfl, hm18, hI⟩
    refine ⟨_, rfl, ?_⟩
    refine OpsT.keep [0, 1, 2, 6, 23, 24, 25, 26, 27] (S' := [(0, .slice A_a0 y17.length c_a0), (1, .int .i64 a1), (2, .func (.func 62) #[] #[.pointer (some ⟨b_a2_c0, 0, none⟩), .pointer (some ⟨b_a2_c1, 0, none⟩)]), (6, .int .i64 20), (23, .slice A_a0 y17.length c_a0), (24, .int .i64 x5), (25, .int .i64 a1), (26, .func (.func 62) #[] #[.pointer (some ⟨b_a2_c0, 0, none⟩), .pointer (some ⟨b_a2_c1, 0, none⟩)]), (27, .tuple #[])]) (by simp only [hm18]; kernel_rfl) ?_
    refine OpsT.done ?_
    refine Qn.then ?_
    obtain ⟨r1, h1, h0⟩ := bindS h0
    refine CodT.meet1 (fun a w => ∃ (x19 : (List Int)), x19 = r1 ∧ Fr 63 [] a ∧ Inv w0 Z w (star (ownS 3 (cI .i64) 1 A_a0 c_a0 x19) A)) ?_ ?_
    ·
      refine CodT.block ?_
      refine (fun a ha => wp_loopN (fun k a w => ∃ (x20 : (List Int)) (x24 : Int), slices_stableCmpFunc'.l1 a1 a2_c1_v k x20 x24 = some r1 ∧ Fr 63 [(0, .slice A_a0 x20.length c_a0), (1, .int .i64 a1), (2, .func (.func 62) #[] #[.pointer (some ⟨b_a2_c0, 0, none⟩), .pointer (some ⟨b_a2_c1, 0, none⟩)]), (6, .int .i64 x24)] a ∧ Inv w0 Z w (star (ownS 3 (cI .i64) 1 A_a0 c_a0 x20) A)) ?_ FU a w ⟨y17, 20, h1, ha.keep [0, 1, 2, 6] (by kernel_rfl), hI⟩)
      clear h1 hI
      rintro k a w ⟨x20, x24, h1, ha, hI⟩
      rcases k with _ | k
      · cases h1
      simp only [slices_stableCmpFunc'.l1] at h1
      refine CodT.of ?_ ha
      refine CodT.seq ?_
      refine CodT.seq ?_
      refine CodT.regionL [0, 1, 2] (by kernel_rfl) ?_
      refine OpsT.pures (r := []) [0, 1, 2] [0, 1, 2, 6, 30] (S' := [(0, .slice A_a0 x20.length c_a0), (1, .int .i64 a1), (2, .func (.func 62) #[] #[.pointer (some ⟨b_a2_c0, 0, none⟩), .pointer (some ⟨b_a2_c1, 0, none⟩)]), (6, .int .i64 x24), (30, .bool (decide (x24 < a1)))]) (by kernel_rfl) ?_
      refine OpsT.done ?_
      refine Qn.then ?_
      by_cases hb25 : (decide (x24 < a1)) = true
      · rw [if_pos hb25] at h1
        refine CodT.yes' (b := decide (x24 < a1)) (by kernel_rfl) hb25 ?_
        refine CodT.skip ?_
        refine Qn.then ?_
        refine CodT.block ?_
        refine CodT.seq ?_
        refine CodT.regionL [0, 1, 2, 3] (by kernel_rfl) ?_
        refine OpsT.pures (r := []) [0, 1, 2, 3] [0, 1, 2, 6, 7, 8] (S' := [(0, .slice A_a0 x20.length c_a0), (1, .int .i64 a1), (2, .func (.func 62) #[] #[.pointer (some ⟨b_a2_c0, 0, none⟩), .pointer (some ⟨b_a2_c1, 0, none⟩)]), (6, .int .i64 x24), (7, .int .i64 0), (8, .int .i64 (wi64 (2 * x24)))]) (by kernel_rfl) ?_
        refine OpsT.done ?_
        refine Qn.then ?_
        refine CodT.seq ?_
        obtain ⟨r2, h2, h1⟩ := bindS h1
        refine CodT.meet1 (fun a w => ∃ (x26 : (List Int)) (x30 : Int), (x26, x30) = r2 ∧ Fr 63 [(0, .slice A_a0 x26.length c_a0), (1, .int .i64 a1), (2, .func (.func 62) #[] #[.pointer (some ⟨b_a2_c0, 0, none⟩), .pointer (some ⟨b_a2_c1, 0, none⟩)]), (6, .int .i64 x24), (7, .int .i64 x30)] a ∧ Inv w0 Z w (star (ownS 3 (cI .i64) 1 A_a0 c_a0 x26) A)) ?_ ?_
        ·
          refine CodT.block ?_
          refine (fun a ha => wp_loopN (fun k a w => ∃ (x31 : (List Int)) (x35 : Int) (x36 : Int), slices_stableCmpFunc'.l2 a1 x24 a2_c1_v k x31 x35 x36 = some r2 ∧ Fr 63 [(0, .slice A_a0 x31.length c_a0), (1, .int .i64 a1), (2, .func (.func 62) #[] #[.pointer (some ⟨b_a2_c0, 0, none⟩), .pointer (some ⟨b_a2_c1, 0, none⟩)]), (6, .int .i64 x24), (7, .int .i64 x35), (8, .int .i64 x36)] a ∧ Inv w0 Z w (star (ownS 3 (cI .i64) 1 A_a0 c_a0 x31) A)) ?_ FU a w ⟨x20, 0, wi64 (2 * x24), h2, ha.keep [0, 1, 2, 6, 7, 8] (by kernel_rfl), hI⟩)
          clear h2 hI
          rintro k a w ⟨x31, x35, x36, h2, ha, hI⟩
          rcases k with _ | k
          · cases h2
          simp only [slices_stableCmpFunc'.l2] at h2
          refine CodT.of ?_ ha
          refine CodT.seq ?_
          refine CodT.seq ?_
          refine CodT.regionL [0, 1, 2] (by kernel_rfl) ?_
          refine OpsT.pures (r := []) [0, 1, 2] [0, 1, 2, 6, 7, 8, 35] (S' := [(0, .slice A_a0 x31.length c_a0), (1, .int .i64 a1), (2, .func (.func 62) #[] #[.pointer (some ⟨b_a2_c0, 0, none⟩), .pointer (some ⟨b_a2_c1, 0, none⟩)]), (6, .int .i64 x24), (7, .int .i64 x35), (8, .int .i64 x36), (35, .bool (decide (x36 ≤ a1)))]) (by kernel_rfl) ?_
          refine OpsT.done ?_
          refine Qn.then ?_
          by_cases hb37 : (decide (x36 ≤ a1)) = true
          · rw [if_pos hb37] at h2
            refine CodT.yes' (b := decide (x36 ≤ a1)) (by kernel_rfl) hb37 ?_
            refine CodT.skip ?_
            refine Qn.then ?_
            refine CodT.block ?_
            refine CodT.seq ?_
            refine CodT.regionL [0, 1, 2, 3, 4, 5, 6, 7] (by kernel_rfl) ?_
            refine OpsT.pures (r := [7]) [0, 1, 2, 3, 4, 5, 6] [0, 1, 2, 6, 8, 36, 37, 40, 41, 42] (S' := [(0, .slice A_a0 x31.length c_a0), (1, .int .i64 a1), (2, .func (.func 62) #[] #[.pointer (some ⟨b_a2_c0, 0, none⟩), .pointer (some ⟨b_a2_c1, 0, none⟩)]), (6, .int .i64 x24), (8, .int .i64 x36), (36, .slice A_a0 x31.length c_a0), (37, .int .i64 x35), (40, .int .i64 (wi64 (x35 + x24))), (41, .int .i64 x36), (42, .func (.func 62) #[] #[.pointer (some ⟨b_a2_c0, 0, none⟩), .pointer (some ⟨b_a2_c1, 0, none⟩)])]) (by kernel_rfl) ?_
            obtain ⟨y39, hc38, h2⟩ := bindS h2
            try dsimp only at h2
            refine OpsT.cons (Does.call (d := some 43) (n := 71) (vs := [.slice A_a0 x31.length c_a0, .int .i64 x35, .int .i64 (wi64 (x35 + x24)), .int .i64 x36, .func (.func 62) #[] #[.pointer (some ⟨b_a2_c0, 0, none⟩), .pointer (some ⟨b_a2_c1, 0, none⟩)]]) (by kernel_rfl) en71 (c71_2 FU w0 w _ _ A_a0 c_a0 x31 x35 (wi64 (x35 + x24)) x36 b_a2_c0 hz_a2_c0 b_a2_c1 A_a2_c1_v c_a2_c1_v a2_c1_v hr_a2_c1_v hz_a2_c1 hI _ hc38) ?_)
            rintro e w ⟨rfl, hm40, hI⟩
            refine ⟨_, rfl, ?_⟩
            refine OpsT.keep [0, 1, 2, 6, 8, 36, 37, 40, 41, 42, 43] (S' := [(0, .slice A_a0 y39.length c_a0), (1, .int .i64 a1), (2, .func (.func 62) #[] #[.pointer (some ⟨b_a2_c0, 0, none⟩), .pointer (some ⟨b_a2_c1, 0, none⟩)]), (6, .int .i64 x24), (8, .int .i64 x36), (36, .slice A_a0 y39.length c_a0), (37, .int .i64 x35), (40, .int .i64 (wi64 (x35 + x24))), (41, .int .i64 x36), (42, .func (.func 62) #[] #[.pointer (some ⟨b_a2_c0, 0, none⟩), .pointer (some ⟨b_a2_c1, 0, none⟩)]), (43, .tuple #[])]) (by simp only [hm40]; kernel_rfl) ?_
            refine OpsT.done ?_
            refine Qn.then ?_
            refine CodT.seq ?_
            refine CodT.regionL [0, 1] (by kernel_rfl) ?_
            refine OpsT.pures (r := []) [0, 1] [0, 1, 2, 6, 7, 8] (S' := [(0, .slice A_a0 y39.length c_a0), (1, .int .i64 a1), (2, .func (.func 62) #[] #[.pointer (some ⟨b_a2_c0, 0, none⟩), .pointer (some ⟨b_a2_c1, 0, none⟩)]), (6, .int .i64 x24), (7, .int .i64 x36), (8, .int .i64 x36)]) (by kernel_rfl) ?_
            refine OpsT.done ?_
            refine Qn.then ?_
            refine CodT.regionL [0, 1, 2, 3, 4] (by kernel_rfl) ?_
            refine OpsT.pures (r := []) [0, 1, 2, 3, 4] [0, 1, 2, 6, 7, 8] (S' := [(0, .slice A_a0 y39.length c_a0), (1, .int .i64 a1), (2, .func (.func 62) #[] #[.pointer (some ⟨b_a2_c0, 0, none⟩), .pointer (some ⟨b_a2_c1, 0, none⟩)]), (6, .int .i64 x24), (7, .int .i64 x36), (8, .int .i64 (wi64 (x36 + (wi64 (2 * x24)))))]) (by kernel_rfl) ?_
            refine OpsT.done ?_
            refine Qn.block_normal ?_
            exact Qn.thenJ fun a ha => ⟨k, Nat.lt_succ_self k, y39, x36, wi64 (x36 + (wi64 (2 * x24))), h2, ha.keep [0, 1, 2, 6, 7, 8] (by kernel_rfl), hI⟩
          · rw [if_neg hb37] at h2
            refine CodT.no' (b := decide (x36 ≤ a1)) (by kernel_rfl) (by simpa using hb37) ?_
            refine CodT.exit ?_
            refine Qn.exit_then ?_
            refine Qn.exit_then ?_
            refine Qn.block ?_
            have e := someS h2
            subst e
            exact Qn.thenJ fun a ha => ⟨x31, x35, rfl, ha.keep [0, 1, 2, 6, 7] (by kernel_rfl), hI⟩
        ·
          rintro a w ⟨x26, x30, rfl, ha, hI⟩
          try dsimp only at h1
          refine Qn.of ?_ ha
          refine Qn.then ?_
          obtain ⟨r2, h2, h1⟩ := bindS h1
          refine CodT.meet (fun a w => ∃ (x41 : (List Int)), x41 = r2 ∧ Fr 63 [(0, .slice A_a0 x41.length c_a0), (1, .int .i64 a1), (2, .func (.func 62) #[] #[.pointer (some ⟨b_a2_c0, 0, none⟩), .pointer (some ⟨b_a2_c1, 0, none⟩)]), (6, .int .i64 x24)] a ∧ Inv w0 Z w (star (ownS 3 (cI .i64) 1 A_a0 c_a0 x41) A)) ?_ ?_
          ·
            refine CodT.seq ?_
            refine CodT.regionL [0, 1, 2, 3] (by kernel_rfl) ?_
            refine OpsT.pures (r := []) [0, 1, 2, 3] [0, 1, 2, 6, 7, 9] (S' := [(0, .slice A_a0 x26.length c_a0), (1, .int .i64 a1), (2, .func (.func 62) #[] #[.pointer (some ⟨b_a2_c0, 0, none⟩), .pointer (some ⟨b_a2_c1, 0, none⟩)]), (6, .int .i64 x24), (7, .int .i64 x30), (9, .int .i64 (wi64 (x30 + x24)))]) (by kernel_rfl) ?_
            refine OpsT.done ?_
            refine Qn.then ?_
            refine CodT.seq ?_
            refine CodT.regionL [0, 1, 2] (by kernel_rfl) ?_
            refine OpsT.pures (r := []) [0, 1, 2] [0, 1, 2, 6, 7, 9, 54] (S' := [(0, .slice A_a0 x26.length c_a0), (1, .int .i64 a1), (2, .func (.func 62) #[] #[.pointer (some ⟨b_a2_c0, 0, none⟩), .pointer (some ⟨b_a2_c1, 0, none⟩)]), (6, .int .i64 x24), (7, .int .i64 x30), (9, .int .i64 (wi64 (x30 + x24))), (54, .bool (decide ((wi64 (x30 + x24)) < a1)))]) (by kernel_rfl) ?_
            refine OpsT.done ?_
            refine Qn.then ?_
            by_cases hb45 : (decide ((wi64 (x30 + x24)) < a1)) = true
            · rw [if_pos hb45] at h2
              refine CodT.yes' (b := decide ((wi64 (x30 + x24)) < a1)) (by kernel_rfl) hb45 ?_
              refine CodT.regionL [0, 1, 2, 3, 4, 5] (by kernel_rfl) ?_
              refine OpsT.pures (r := [5]) [0, 1, 2, 3, 4] [0, 1, 2, 6, 55, 56, 57, 58, 59] (S' := [(0, .slice A_a0 x26.length c_a0), (1, .int .i64 a1), (2, .func (.func 62) #[] #[.pointer (some ⟨b_a2_c0, 0, none⟩), .pointer (some ⟨b_a2_c1, 0, none⟩)]), (6, .int .i64 x24), (55, .slice A_a0 x26.length c_a0), (56, .int .i64 x30), (57, .int .i64 (wi64 (x30 + x24))), (58, .int .i64 a1), (59, .func (.func 62) #[] #[.pointer (some ⟨b_a2_c0, 0, none⟩), .pointer (some ⟨b_a2_c1, 0, none⟩)])]) (by kernel_rfl) ?_
              obtain ⟨y47, hc46, h2⟩ := bindS h2
              try dsimp only at h2
              refine OpsT.cons (Does.call (d := some 60) (n := 71) (vs := [.slice A_a0 x26.length c_a0, .int .i64 x30, .int .i64 (wi64 (x30 + x24)), .int .i64 a1, .func (.func 62) #[] #[.pointer (some ⟨b_a2_c0, 0, none⟩), .pointer (some ⟨b_a2_c1, 0, none⟩)]]) (by kernel_rfl) en71 (c71_2 FU w0 w _ _ A_a0 c_a0 x26 x30 (wi64 (x30 + x24)) a1 b_a2_c0 hz_a2_c0 b_a2_c1 A_a2_c1_v c_a2_c1_v a2_c1_v hr_a2_c1_v hz_a2_c1 hI _ hc46) ?_)
              rintro e w ⟨rfl, hm48, hI⟩
              refine ⟨_, rfl, ?_⟩
              refine OpsT.keep [0, 1, 2, 6, 55, 56, 57, 58, 59, 60] (S' := [(0, .slice A_a0 y47.length c_a0), (1, .int .i64 a1), (2, .func (.func 62) #[] #[.pointer (some ⟨b_a2_c0, 0, none⟩), .pointer (some ⟨b_a2_c1, 0, none⟩)]), (6, .int .i64 x24), (55, .slice A_a0 y47.length c_a0), (56, .int .i64 x30), (57, .int .i64 (wi64 (x30 + x24))), (58, .int .i64 a1), (59, .func (.func 62) #[] #[.pointer (some ⟨b_a2_c0, 0, none⟩), .pointer (some ⟨b_a2_c1, 0, none⟩)]), (60, .tuple #[])]) (by simp only [hm48]; kernel_rfl) ?_
              refine OpsT.done ?_
              have e := someS h2
              subst e
              exact Qn.thenJ fun a ha => ⟨y47, rfl, ha.keep [0, 1, 2, 6] (by kernel_rfl), hI⟩
            · rw [if_neg hb45] at h2
              refine CodT.no' (b := decide ((wi64 (x30 + x24)) < a1)) (by kernel_rfl) (by simpa using hb45) ?_
              refine CodT.skip ?_
              have e := someS h2
              subst e
              exact Qn.thenJ fun a ha => ⟨x26, rfl, ha.keep [0, 1, 2, 6] (by kernel_rfl), hI⟩
          ·
            rintro a w ⟨x41, rfl, ha, hI⟩
            try dsimp only at h1
            refine CodT.of ?_ ha
            refine CodT.regionL [0, 1, 2] (by kernel_rfl) ?_
            refine OpsT.pures (r := []) [0, 1, 2] [0, 1, 2, 6] (S' := [(0, .slice A_a0 x41.length c_a0), (1, .int .i64 a1), (2, .func (.func 62) #[] #[.pointer (some ⟨b_a2_c0, 0, none⟩), .pointer (some ⟨b_a2_c1, 0, none⟩)]), (6, .int .i64 (wi64 (x24 * 2)))]) (by kernel_rfl) ?_
            refine OpsT.done ?_
            refine Qn.block_normal ?_
            exact Qn.thenJ fun a ha => ⟨k, Nat.lt_succ_self k, x41, wi64 (x24 * 2), h1, ha.keep [0, 1, 2, 6] (by kernel_rfl), hI⟩
      · rw [if_neg hb25] at h1
        refine CodT.no' (b := decide (x24 < a1)) (by kernel_rfl) (by simpa using hb25) ?_
        refine CodT.exit ?_
        refine Qn.exit_then ?_
        refine Qn.exit_then ?_
        refine Qn.block ?_
        have e := someS h1
        subst e
        exact Qn.thenJ fun a ha => ⟨x20, rfl, ha.keep [] (by kernel_rfl), hI⟩
    ·
      rintro a w ⟨x19, rfl, ha, hI⟩
      try dsimp only at h0
      refine Qn.of ?_ ha
      obtain ⟨hg49, h0⟩ := guardS h0
      have e := someS h0
      subst e
      refine Qn.keep [] (S' := []) (by kernel_rfl) ?_
      exact post_normal (v := .tuple #[]) (fun a ha => RunRes.run (vs := []) .nil ha (by kernel_rfl)) ⟨rfl, hg49, hI⟩
set_option maxRecDepth 100000 in
set_option maxHeartbeats 4000000 in
/-- slices.SortStableFunc[[]int,int] -/
theorem c61_2 (w0 w : World) (Z : Hp) (A : HP) (A_a0 : Option Addr) (c_a0 : Nat) (a0 : (List Int)) (b_a1_c0 : Nat) (hz_a1_c0 : Z b_a1_c0 = some (.cells ([.func (.func 52) #[] #[]]).toArray 64 (0, 0))) (b_a1_c1 : Nat) (A_a1_c1_v : Option Addr) (c_a1_c1_v : Nat) (a1_c1_v : (List PoolUse)) (hr_a1_c1_v : RdS Z c_PoolUse 5 A_a1_c1_v c_a1_c1_v a1_c1_v) (hz_a1_c1 : Z b_a1_c1 = some (.cells ([.slice A_a1_c1_v a1_c1_v.length c_a1_c1_v]).toArray 35 (0, 0))) (hI : Inv w0 Z w (star (ownS 3 (cI .i64) 1 A_a0 c_a0 a0) A)) (r : (List Int)) (h0 : slices_SortStableFunc' a0 a1_c1_v = some r) :
    Calls prog 61 #[.slice A_a0 a0.length c_a0, .func (.func 62) #[] #[.pointer (some ⟨b_a1_c0, 0, none⟩), .pointer (some ⟨b_a1_c1, 0, none⟩)]] w (fun e w' => e = .returned (.tuple #[]) ∧ r.length = a0.length ∧ Inv w0 Z w' (star (ownS 3 (cI .i64) 1 A_a0 c_a0 r) A)) := by
  refine calls_intro (args := [.slice A_a0 a0.length c_a0, .func (.func 62) #[] #[.pointer (some ⟨b_a1_c0, 0, none⟩), .pointer (some ⟨b_a1_c1, 0, none⟩)]]) (fn := Go.Proofs.Try.f61) 9 Go.Proofs.Try.func61 (by rfl) Go.Proofs.Try.ntmps61 (by kernel_rfl) ?_
  unfold slices_SortStableFunc' at h0
  refine CodT.regionL [0, 1, 2, 3, 4] (by kernel_rfl) ?_
  refine OpsT.pures (r := [4]) [0, 1, 2, 3] [4, 6, 7] (S' := [(4, .slice A_a0 a0.length c_a0), (6, .int .i64 (a0.length : Int)), (7, .func (.func 62) #[] #[.pointer (some ⟨b_a1_c0, 0, none⟩), .pointer (some ⟨b_a1_c1, 0, none⟩)])]) (by kernel_rfl) ?_
  obtain ⟨y2, hc1, h0⟩ := bindS h0
  try dsimp only at h0
  refine OpsT.cons (Does.call (d := some 8) (n := 67) (vs := [.slice A_a0 a0.length c_a0, .int .i64 (a0.length : Int), .func (.func 62) #[] #[.pointer (some ⟨b_a1_c0, 0, none⟩), .pointer (some ⟨b_a1_c1, 0, none⟩)]]) (by kernel_rfl) en67 (c67_2 w0 w _ _ A_a0 c_a0 a0 (a0.length : Int) b_a1_c0 hz_a1_c0 b_a1_c1 A_a1_c1_v c_a1_c1_v a1_c1_v hr_a1_c1_v hz_a1_c1 hI _ hc1) ?_)
  rintro e w ⟨rfl, hm3, hI⟩
  refine ⟨_, rfl, ?_⟩
  refine OpsT.keep [4, 6, 7, 8] (S' := [(4, .slice A_a0 y2.length c_a0), (6, .int .i64 (a0.length : Int)), (7, .func (.func 62) #[] #[.pointer (some ⟨b_a1_c0, 0, none⟩), .pointer (some ⟨b_a1_c1, 0, none⟩)]), (8, .tuple #[])]) (by simp only [hm3]; kernel_rfl) ?_
  refine OpsT.done ?_
  obtain ⟨hg4, h0⟩ := guardS h0
  have e := someS h0
  subst e
  refine Qn.keep [] (S' := []) (by kernel_rfl) ?_
  exact post_normal (v := .tuple #[]) (fun a ha => RunRes.run (vs := []) .nil ha (by kernel_rfl)) ⟨rfl, hg4, hI⟩
set_option maxRecDepth 100000 in
set_option maxHeartbeats 4000000 in
/-- cenotaph/pool.places[cenotaph/pool.Use] -/
theorem c45_2 (w0 w : World) (Z : Hp) (A : HP)  (hI : Inv w0 Z w A) (A_a0 : Option Addr) (c_a0 : Nat) (a0 : (List PoolUse)) (hr_a0 : RdS Z c_PoolUse 5 A_a0 c_a0 a0) (b_a1_c0 : Nat) (a1_c0_v : Int) (hz_a1_c0 : Z b_a1_c0 = some (.cells ([.int .i64 a1_c0_v]).toArray 3 (0, 0))) (r : (List Int)) (h0 : pool_places' a0 a1_c0_v = some r) :
    Calls prog 45 #[.slice A_a0 a0.length c_a0, .func (.func 50) #[] #[.pointer (some ⟨b_a1_c0, 0, none⟩)], .func (.func 52) #[] #[]] w (fun e w' => ∃ (A1 : Option Addr) (c1 : Nat), e = .returned (.slice A1 r.length c1) ∧ Inv w0 Z w' (star (ownS 3 (cI .i64) 1 A1 c1 r) A)) := by
  refine calls_intro (args := [.slice A_a0 a0.length c_a0, .func (.func 50) #[] #[.pointer (some ⟨b_a1_c0, 0, none⟩)], .func (.func 52) #[] #[]]) (fn := Go.Proofs.Try.f45) 29 Go.Proofs.Try.func45 (by rfl) Go.Proofs.Try.ntmps45 (by kernel_rfl) ?_
  unfold pool_places' at h0
  refine CodT.seq ?_
  refine CodT.regionL [0, 1, 2] (by kernel_rfl) ?_
  refine OpsT.cons (Does.boxL (d := 3) (T := 35) (v := .slice A_a0 a0.length c_a0) ([.slice A_a0 a0.length c_a0]) (by kernel_rfl) hI (by kernel_rfl) ?_)
  intro b1 w hI
  refine OpsT.cons (Does.boxL (d := 5) (T := 64) (v := .func (.func 52) #[] #[]) ([.func (.func 52) #[] #[]]) (by kernel_rfl) hI (by kernel_rfl) ?_)
  intro b2 w hI
  refine OpsT.pures (r := []) [2] [1, 3, 5] (S' := [(1, .func (.func 50) #[] #[.pointer (some ⟨b_a1_c0, 0, none⟩)]), (3, .pointer (some ⟨b1, 0, none⟩)), (5, .pointer (some ⟨b2, 0, none⟩))]) (by kernel_rfl) ?_
  refine OpsT.done ?_
  refine Qn.then ?_
  refine CodT.seq ?_
  refine CodT.regionL [0] (by kernel_rfl) ?_
  refine OpsT.pures (r := []) [0] [1, 3, 5, 7] (S' := [(1, .func (.func 50) #[] #[.pointer (some ⟨b_a1_c0, 0, none⟩)]), (3, .pointer (some ⟨b1, 0, none⟩)), (5, .pointer (some ⟨b2, 0, none⟩)), (7, .slice none 0 0)]) (by kernel_rfl) ?_
  refine OpsT.done ?_
  refine Qn.then ?_
  refine CodT.seq ?_
  refine CodT.seq ?_
  refine CodT.regionL [0, 1, 2] (by kernel_rfl) ?_
  refine OpsT.cons (Does.yi (Yl.load (d := 10) (T := 35) (v := .slice A_a0 a0.length c_a0) (by kernel_rfl) (ldB ty35 (l := [.slice A_a0 a0.length c_a0]) (o := 0) (v := .slice A_a0 a0.length c_a0) (pick2 _ _ _) (by kernel_rfl))) hI ?_)
  refine OpsT.pures (r := []) [1, 2] [1, 3, 5, 7, 10, 11, 12] (S' := [(1, .func (.func 50) #[] #[.pointer (some ⟨b_a1_c0, 0, none⟩)]), (3, .pointer (some ⟨b1, 0, none⟩)), (5, .pointer (some ⟨b2, 0, none⟩)), (7, .slice none 0 0), (10, .slice A_a0 a0.length c_a0), (11, .int .i64 (a0.length : Int)), (12, .int .i64 0)]) (by kernel_rfl) ?_
  refine OpsT.done ?_
  refine Qn.then ?_
  obtain ⟨r1, h1, h0⟩ := bindS h0
  refine CodT.meet1 (fun a w => ∃ (x3 : (List Int)) (A4 : Option Addr) (cp5 : Nat), x3 = r1 ∧ Fr 29 [(3, .pointer (some ⟨b1, 0, none⟩)), (5, .pointer (some ⟨b2, 0, none⟩)), (7, .slice A4 x3.length cp5)] a ∧ Inv w0 Z w (star (ownS 3 (cI .i64) 1 A4 cp5 x3) (star (pt b2 (.cells ([.func (.func 52) #[] #[]]).toArray 64 (0, 0))) (star (pt b1 (.cells ([.slice A_a0 a0.length c_a0]).toArray 35 (0, 0))) A)))) ?_ ?_
  ·
    refine CodT.block ?_
    have hI := ownS_nil (α := Int) hI 3 (cI .i64) 1
    refine (fun a ha => wp_loopN (fun k a w => ∃ (x6 : (List Int)) (x9 : Int) (A7 : Option Addr) (cp8 : Nat), pool_places'.l0 a0 a1_c0_v k x6 x9 = some r1 ∧ Fr 29 [(1, .func (.func 50) #[] #[.pointer (some ⟨b_a1_c0, 0, none⟩)]), (3, .pointer (some ⟨b1, 0, none⟩)), (5, .pointer (some ⟨b2, 0, none⟩)), (7, .slice A7 x6.length cp8), (10, .slice A_a0 a0.length c_a0), (11, .int .i64 (a0.length : Int)), (12, .int .i64 x9)] a ∧ Inv w0 Z w (star (ownS 3 (cI .i64) 1 A7 cp8 x6) (star (pt b2 (.cells ([.func (.func 52) #[] #[]]).toArray 64 (0, 0))) (star (pt b1 (.cells ([.slice A_a0 a0.length c_a0]).toArray 35 (0, 0))) A)))) ?_ FU a w ⟨([] : List Int), 0, none, 0, h1, ha.keep [1, 3, 5, 7, 10, 11, 12] (by kernel_rfl), hI⟩)
    clear h1 hI
    rintro k a w ⟨x6, x9, A7, cp8, h1, ha, hI⟩
    rcases k with _ | k
    · cases h1
    simp only [pool_places'.l0] at h1
    refine CodT.of ?_ ha
    refine CodT.seq ?_
    refine CodT.regionL [0] (by kernel_rfl) ?_
    refine OpsT.pures (r := []) [0] [1, 3, 5, 7, 10, 11, 12, 13] (S' := [(1, .func (.func 50) #[] #[.pointer (some ⟨b_a1_c0, 0, none⟩)]), (3, .pointer (some ⟨b1, 0, none⟩)), (5, .pointer (some ⟨b2, 0, none⟩)), (7, .slice A7 x6.length cp8), (10, .slice A_a0 a0.length c_a0), (11, .int .i64 (a0.length : Int)), (12, .int .i64 x9), (13, .bool (decide (x9 < (a0.length : Int))))]) (by kernel_rfl) ?_
    refine OpsT.done ?_
    refine Qn.then ?_
    refine CodT.seq ?_
    by_cases hb10 : (decide (x9 < (a0.length : Int))) = true
    · rw [if_pos hb10] at h1
      refine CodT.yes' (b := decide (x9 < (a0.length : Int))) (by kernel_rfl) hb10 ?_
      refine CodT.skip ?_
      refine Qn.then ?_
      obtain ⟨r2, h2, h1⟩ := bindS h1
      refine CodT.meet (fun a w => ∃ (x11 : (List Int)) (A12 : Option Addr) (cp13 : Nat), x11 = r2 ∧ Fr 29 [(1, .func (.func 50) #[] #[.pointer (some ⟨b_a1_c0, 0, none⟩)]), (3, .pointer (some ⟨b1, 0, none⟩)), (5, .pointer (some ⟨b2, 0, none⟩)), (7, .slice A12 x11.length cp13), (10, .slice A_a0 a0.length c_a0), (11, .int .i64 (a0.length : Int)), (12, .int .i64 x9)] a ∧ Inv w0 Z w (star (ownS 3 (cI .i64) 1 A12 cp13 x11) (star (pt b2 (.cells ([.func (.func 52) #[] #[]]).toArray 64 (0, 0))) (star (pt b1 (.cells ([.slice A_a0 a0.length c_a0]).toArray 35 (0, 0))) A)))) ?_ ?_
      ·
        refine CodT.block ?_
        refine CodT.seq ?_
        refine CodT.regionL [0, 1, 2, 3, 4, 5] (by kernel_rfl) ?_
        refine OpsT.pures (r := [1, 2, 3, 4, 5]) [0] [1, 3, 5, 7, 10, 11, 12, 14] (S' := [(1, .func (.func 50) #[] #[.pointer (some ⟨b_a1_c0, 0, none⟩)]), (3, .pointer (some ⟨b1, 0, none⟩)), (5, .pointer (some ⟨b2, 0, none⟩)), (7, .slice A7 x6.length cp8), (10, .slice A_a0 a0.length c_a0), (11, .int .i64 (a0.length : Int)), (12, .int .i64 x9), (14, .int .i64 x9)]) (by kernel_rfl) ?_
        obtain ⟨hg14, h2⟩ := guardS h2
        obtain ⟨g15, o19, hA16, hr17, hl18⟩ := RdS.get hr_a0 hg14.1 hg14.2
        refine OpsT.cons (Does.yi (Yl.indexSlice (d := 15) (T := 35) (cc := c_a0) (k := .i64) (j := x9) (g := g15) (o := o19) (by kernel_rfl) Go.Proofs.Try.underlying35 ty49 hA16 hg14.1 hg14.2) hI ?_)
        refine OpsT.cons (Does.yi (Yl.load (d := 16) (T := 49) (v := .agg (c_PoolUse (gt a0 x9)).toArray) (by kernel_rfl) (ldRN ty49 (cs := c_PoolUse (gt a0 x9)) 0 (fun w hC => hr17 w0 w _ hC) hl18 (whole _ _ hl18))) hI ?_)
        refine OpsT.cons (Does.allocL (d := 9) (T := 49) (c_PoolUse (PoolUse.mk 0 0 0 false false)) (by kernel_rfl) ty49 hI (by kernel_rfl) ?_)
        intro b20 w hI
        refine OpsT.pures (r := [5]) [4] [1, 3, 5, 7, 8, 9, 10, 11, 12, 16] (S' := [(1, .func (.func 50) #[] #[.pointer (some ⟨b_a1_c0, 0, none⟩)]), (3, .pointer (some ⟨b1, 0, none⟩)), (5, .pointer (some ⟨b2, 0, none⟩)), (7, .slice A7 x6.length cp8), (8, .int .i64 x9), (9, .pointer (some ⟨b20, 0, none⟩)), (10, .slice A_a0 a0.length c_a0), (11, .int .i64 (a0.length : Int)), (12, .int .i64 x9), (16, .agg (c_PoolUse (gt a0 x9)).toArray)]) (by kernel_rfl) ?_
        refine OpsT.cons (Does.storeLit (T := 49) (b := b20) (o := 0) (v := .agg (c_PoolUse (gt a0 x9)).toArray) (l := c_PoolUse (PoolUse.mk 0 0 0 false false)) (vs := c_PoolUse (gt a0 x9)) (L' := c_PoolUse (gt a0 x9)) (by kernel_rfl) ty49 hI (by kernel_rfl) (by kernel_rfl) (by kernel_rfl) (by kernel_rfl) (by kernel_rfl) ?_)
        intro w hI
        refine OpsT.done ?_
        refine Qn.then ?_
        refine CodT.seq ?_
        refine CodT.regionL [0, 1, 2] (by kernel_rfl) ?_
        refine OpsT.pures (r := [1, 2]) [0] [1, 3, 5, 7, 8, 9, 10, 11, 12, 17] (S' := [(1, .func (.func 50) #[] #[.pointer (some ⟨b_a1_c0, 0, none⟩)]), (3, .pointer (some ⟨b1, 0, none⟩)), (5, .pointer (some ⟨b2, 0, none⟩)), (7, .slice A7 x6.length cp8), (8, .int .i64 x9), (9, .pointer (some ⟨b20, 0, none⟩)), (10, .slice A_a0 a0.length c_a0), (11, .int .i64 (a0.length : Int)), (12, .int .i64 x9), (17, .func (.func 50) #[] #[.pointer (some ⟨b_a1_c0, 0, none⟩)])]) (by kernel_rfl) ?_
        refine OpsT.cons (Does.yi (Yl.load (d := 18) (T := 49) (v := .agg (c_PoolUse (gt a0 x9)).toArray) (by kernel_rfl) (ldBN ty49 (l := c_PoolUse (gt a0 x9)) (o := 0) (cs := c_PoolUse (gt a0 x9)) (ent_refl _) (by kernel_rfl) (whole _ _ (by kernel_rfl)))) hI ?_)
        obtain ⟨y22, hc21, h2⟩ := bindS h2
        try dsimp only at h2
        refine OpsT.cons (Does.call (d := some 19) (n := 50) (vs := [.agg (c_PoolUse (gt a0 x9)).toArray, .pointer (some ⟨b_a1_c0, 0, none⟩)]) (by kernel_rfl) en50 (c50 w0 w _ _ hI (gt a0 x9) b_a1_c0 a1_c0_v hz_a1_c0 _ hc21) ?_)
        rintro e w ⟨rfl, hI⟩
        refine ⟨_, rfl, ?_⟩
        refine OpsT.done ?_
        refine Qn.then ?_
        by_cases hb23 : y22 = true
        · rw [if_pos hb23] at h2
          refine CodT.yes' (b := y22) (by kernel_rfl) hb23 ?_
          refine CodT.regionL [0, 1, 2, 3, 4] (by kernel_rfl) ?_
          refine OpsT.pures (r := [2, 3, 4]) [0, 1] [1, 3, 5, 10, 11, 12, 20, 21] (S' := [(1, .func (.func 50) #[] #[.pointer (some ⟨b_a1_c0, 0, none⟩)]), (3, .pointer (some ⟨b1, 0, none⟩)), (5, .pointer (some ⟨b2, 0, none⟩)), (10, .slice A_a0 a0.length c_a0), (11, .int .i64 (a0.length : Int)), (12, .int .i64 x9), (20, .slice A7 x6.length cp8), (21, .int .i64 x9)]) (by kernel_rfl) ?_
          refine OpsT.cons (Does.buildSlice (en := (cI .i64)) (d := 22) (n := 1) (T := 40) (ps := [(0, .int .i64 x9)]) ([x9] : List Int) (by kernel_rfl) Go.Proofs.Try.underlying40 ty3 (by kernel_rfl) (by kernel_rfl) (by kernel_rfl) (by kernel_rfl) (len_all (fun _ => rfl)) hI ?_)
          intro b24 w hI
          obtain ⟨hg25, h2⟩ := guardS h2
          have hI := hI.mono (pick3 _ _ _ _)
          refine OpsT.cons (Does.append (d := 23) (t := 40) (tx := 40) (ty := 40) (ys := x6) (zs := ([x9] : List Int)) (x := .slice (some ⟨b24, 0, none⟩) (([x9] : List Int).length) 1) (by kernel_rfl) Go.Proofs.Try.underlying40 ty3 (by kernel_rfl) hI (src_own Go.Proofs.Try.underlying40 (hI.mono (pick2 _ _ _)) (one_flat _ (fun _ => rfl))) (ownS_facts (hI.mono (pick2 _ _ _))).2.2 (by unfold LIM at hg25; omega) hg25 ?_)
          intro A26 cp27 w hI
          refine OpsT.pures (r := []) [4] [1, 3, 5, 7, 10, 11, 12] (S' := [(1, .func (.func 50) #[] #[.pointer (some ⟨b_a1_c0, 0, none⟩)]), (3, .pointer (some ⟨b1, 0, none⟩)), (5, .pointer (some ⟨b2, 0, none⟩)), (7, .slice A26 ((x6 ++ ([x9] : List Int)).length) cp27), (10, .slice A_a0 a0.length c_a0), (11, .int .i64 (a0.length : Int)), (12, .int .i64 x9)]) (by kernel_rfl) ?_
          refine OpsT.done ?_
          refine Qn.block_normal ?_
          have hI := hI.mono (pick2 _ _ _)
          have hI := hI.drop
          have hI := hI.mono (pick2 _ _ _)
          have hI := hI.drop
          have e := someS h2
          subst e
          exact Qn.thenJ fun a ha => ⟨x6 ++ ([x9] : List Int), A26, cp27, rfl, ha.keep [1, 3, 5, 7, 10, 11, 12] (by kernel_rfl), hI⟩
        · rw [if_neg hb23] at h2
          refine CodT.no' (b := y22) (by kernel_rfl) (by simpa using hb23) ?_
          refine CodT.skip ?_
          refine Qn.block_normal ?_
          have hI := hI.drop
          have e := someS h2
          subst e
          exact Qn.thenJ fun a ha => ⟨x6, A7, cp8, rfl, ha.keep [1, 3, 5, 7, 10, 11, 12] (by kernel_rfl), hI⟩
      ·
        rintro a w ⟨x11, A12, cp13, rfl, ha, hI⟩
        try dsimp only at h1
        refine CodT.of ?_ ha
        refine CodT.regionL [0, 1] (by kernel_rfl) ?_
        refine OpsT.pures (r := []) [0, 1] [1, 3, 5, 7, 10, 11, 12] (S' := [(1, .func (.func 50) #[] #[.pointer (some ⟨b_a1_c0, 0, none⟩)]), (3, .pointer (some ⟨b1, 0, none⟩)), (5, .pointer (some ⟨b2, 0, none⟩)), (7, .slice A12 x11.length cp13), (10, .slice A_a0 a0.length c_a0), (11, .int .i64 (a0.length : Int)), (12, .int .i64 (wi64 (x9 + 1)))]) (by kernel_rfl) ?_
        refine OpsT.done ?_
        exact Qn.thenJ fun a ha => ⟨k, Nat.lt_succ_self k, x11, wi64 (x9 + 1), A12, cp13, h1, ha.keep [1, 3, 5, 7, 10, 11, 12] (by kernel_rfl), hI⟩
    · rw [if_neg hb10] at h1
      refine CodT.no' (b := decide (x9 < (a0.length : Int))) (by kernel_rfl) (by simpa using hb10) ?_
      refine CodT.exit ?_
      refine Qn.exit_then ?_
      refine Qn.exit_then ?_
      refine Qn.block ?_
      have e := someS h1
      subst e
      exact Qn.thenJ fun a ha => ⟨x6, A7, cp8, rfl, ha.keep [3, 5, 7] (by kernel_rfl), hI⟩
  ·
    rintro a w ⟨x3, A4, cp5, rfl, ha, hI⟩
    try dsimp only at h0
    refine Qn.of ?_ ha
    refine Qn.then ?_
    refine CodT.seq ?_
    have hI := hI.mono (pick2 _ _ _)
    obtain ⟨Z28, hle29, hz30, hI⟩ := pt_freeze hI
    have hI := hI.mono (pick2 _ _ _)
    obtain ⟨Z31, hle32, hz33, hI⟩ := pt_freeze hI
    refine CodT.regionL [0, 1, 2] (by kernel_rfl) ?_
    refine OpsT.pures (r := [2]) [0, 1] [7, 25, 26] (S' := [(7, .slice A4 x3.length cp5), (25, .slice A4 x3.length cp5), (26, .func (.func 62) #[] #[.pointer (some ⟨b2, 0, none⟩), .pointer (some ⟨b1, 0, none⟩)])]) (by kernel_rfl) ?_
    obtain ⟨y35, hc34, h0⟩ := bindS h0
    try dsimp only at h0
    refine OpsT.cons (Does.call (d := some 27) (n := 61) (vs := [.slice A4 x3.length cp5, .func (.func 62) #[] #[.pointer (some ⟨b2, 0, none⟩), .pointer (some ⟨b1, 0, none⟩)]]) (by kernel_rfl) en61 (c61_2 w0 w _ _ A4 cp5 x3 b2 (hle32 _ _ hz30) b1 A_a0 c_a0 a0 (hr_a0.mono (Hp.le_trans hle29 hle32)) hz33 hI _ hc34) ?_)
    rintro e w ⟨rfl, hm36, hI⟩
    refine ⟨_, rfl, ?_⟩
    refine OpsT.keep [7, 25, 26, 27] (S' := [(7, .slice A4 y35.length cp5), (25, .slice A4 y35.length cp5), (26, .func (.func 62) #[] #[.pointer (some ⟨b2, 0, none⟩), .pointer (some ⟨b1, 0, none⟩)]), (27, .tuple #[])]) (by simp only [hm36]; kernel_rfl) ?_
    refine OpsT.done ?_
    refine Qn.then ?_
    refine CodT.seq ?_
    refine CodT.regionL [0, 1] (by kernel_rfl) ?_
    refine OpsT.pures (r := []) [0, 1] [6] (S' := [(6, .slice A4 y35.length cp5)]) (by kernel_rfl) ?_
    refine OpsT.done ?_
    refine Qn.then ?_
    refine CodT.ret ?_
    have e := someS h0
    subst e
    refine Qn.keep [6] (S' := [(6, .slice A4 y35.length cp5)]) (by kernel_rfl) ?_
    exact post_ret (v := .slice A4 y35.length cp5) (fun a ha => RunRes.run (vs := [.slice A4 y35.length cp5]) (.tmp (t := 6) (by kernel_rfl) .nil) ha (by kernel_rfl)) ⟨A4, cp5, rfl, hI.weaken (Hp.le_trans hle29 hle32)⟩
set_option maxRecDepth 100000 in
set_option maxHeartbeats 4000000 in
/-- cenotaph/pool.Victim -/
theorem c32 (w0 w : World) (Z : Hp) (A : HP)  (hI : Inv w0 Z w A) (A_a0 : Option Addr) (c_a0 : Nat) (a0 : (List PoolUse)) (hr_a0 : RdS Z c_PoolUse 5 A_a0 c_a0 a0) (a1 : Int) (r : Int) (h0 : pool_Victim a0 a1 = some r) :
    Calls prog 32 #[.slice A_a0 a0.length c_a0, .int .i64 a1] w (fun e w' => e = .returned (.int .i64 r) ∧ Inv w0 Z w' A) := by
  refine calls_intro (args := [.slice A_a0 a0.length c_a0, .int .i64 a1]) (fn := Go.Proofs.Try.f32) 11 Go.Proofs.Try.func32 (by rfl) Go.Proofs.Try.ntmps32 (by kernel_rfl) ?_
  unfold pool_Victim at h0
  refine CodT.seq ?_
  refine CodT.regionL [0, 1] (by kernel_rfl) ?_
  refine OpsT.cons (Does.boxL (d := 3) (T := 3) (v := .int .i64 a1) ([.int .i64 a1]) (by kernel_rfl) hI (by kernel_rfl) ?_)
  intro b1 w hI
  refine OpsT.pures (r := []) [1] [0, 3] (S' := [(0, .slice A_a0 a0.length c_a0), (3, .pointer (some ⟨b1, 0, none⟩))]) (by kernel_rfl) ?_
  refine OpsT.done ?_
  refine Qn.then ?_
  refine CodT.seq ?_
  obtain ⟨Z2, hle3, hz4, hI⟩ := pt_freeze hI
  refine CodT.regionL [0, 1] (by kernel_rfl) ?_
  refine OpsT.pures (r := []) [0, 1] [0, 5] (S' := [(0, .slice A_a0 a0.length c_a0), (5, .func (.func 50) #[] #[.pointer (some ⟨b1, 0, none⟩)])]) (by kernel_rfl) ?_
  refine OpsT.done ?_
  refine Qn.then ?_
  refine CodT.seq ?_
  refine CodT.regionL [0, 1, 2, 3, 4] (by kernel_rfl) ?_
  refine OpsT.pures (r := [2, 3, 4]) [0, 1] [7, 8] (S' := [(7, .slice A_a0 a0.length c_a0), (8, .func (.func 50) #[] #[.pointer (some ⟨b1, 0, none⟩)])]) (by kernel_rfl) ?_
  obtain ⟨y6, hc5, h0⟩ := bindS h0
  try dsimp only at h0
  refine OpsT.cons (Does.call (d := some 9) (n := 45) (vs := [.slice A_a0 a0.length c_a0, .func (.func 50) #[] #[.pointer (some ⟨b1, 0, none⟩)], .func (.func 52) #[] #[]]) (by kernel_rfl) en45 (c45_2 w0 w _ _ hI A_a0 c_a0 a0 (hr_a0.mono hle3) b1 a1 hz4 _ hc5) ?_)
  rintro e w ⟨A7, cp8, rfl, hI⟩
  refine ⟨_, rfl, ?_⟩
  obtain ⟨Z9, hle10, hr11, hI⟩ := ownS_freeze hI
  obtain ⟨y13, hc12, h0⟩ := bindS h0
  try dsimp only at h0
  refine OpsT.cons (Does.call (d := some 10) (n := 49) (vs := [.slice A7 y6.length cp8]) (by kernel_rfl) en49 (c49 w0 w _ _ hI A7 cp8 y6 hr11 _ hc12) ?_)
  rintro e w ⟨rfl, hI⟩
  refine ⟨_, rfl, ?_⟩
  refine OpsT.pures (r := []) [4] [4] (S' := [(4, .int .i64 y13)]) (by kernel_rfl) ?_
  refine OpsT.done ?_
  refine Qn.then ?_
  refine CodT.ret ?_
  have e := someS h0
  subst e
  refine Qn.keep [4] (S' := [(4, .int .i64 y13)]) (by kernel_rfl) ?_
  exact post_ret (v := .int .i64 y13) (fun a ha => RunRes.run (vs := [.int .i64 y13]) (.tmp (t := 4) (by kernel_rfl) .nil) ha (by kernel_rfl)) ⟨rfl, hI.weaken (Hp.le_trans hle3 hle10)⟩
set_option maxRecDepth 100000 in
set_option maxHeartbeats 4000000 in
/-- cenotaph/pool.Spare -/
theorem c34 (w0 w : World) (Z : Hp) (A : HP)  (hI : Inv w0 Z w A) (A_a0 : Option Addr) (c_a0 : Nat) (a0 : (List PoolUse)) (hr_a0 : RdS Z c_PoolUse 5 A_a0 c_a0 a0) (a1 : Int) (r : Int) (h0 : pool_Spare a0 a1 = some r) :
    Calls prog 34 #[.slice A_a0 a0.length c_a0, .int .i64 a1] w (fun e w' => e = .returned (.int .i64 r) ∧ Inv w0 Z w' A) := by
  refine calls_intro (args := [.slice A_a0 a0.length c_a0, .int .i64 a1]) (fn := Go.Proofs.Try.f34) 11 Go.Proofs.Try.func34 (by rfl) Go.Proofs.Try.ntmps34 (by kernel_rfl) ?_
  unfold pool_Spare at h0
  refine CodT.seq ?_
  refine CodT.regionL [0] (by kernel_rfl) ?_
  refine OpsT.pures (r := []) [0] [0, 1] (S' := [(0, .slice A_a0 a0.length c_a0), (1, .int .i64 a1)]) (by kernel_rfl) ?_
  refine OpsT.done ?_
  refine Qn.then ?_
  refine CodT.seq ?_
  refine CodT.regionL [0, 1, 2, 3, 4, 5, 6] (by kernel_rfl) ?_
  refine OpsT.pures (r := [1, 2, 3, 4, 5, 6]) [0] [1, 5] (S' := [(1, .int .i64 a1), (5, .slice A_a0 a0.length c_a0)]) (by kernel_rfl) ?_
  obtain ⟨y2, hc1, h0⟩ := bindS h0
  try dsimp only at h0
  refine OpsT.cons (Does.call (d := some 6) (n := 28) (vs := [.slice A_a0 a0.length c_a0]) (by kernel_rfl) en28 (c28 w0 w _ _ hI A_a0 c_a0 a0 hr_a0 _ hc1) ?_)
  rintro e w ⟨A3, cp4, rfl, hI⟩
  refine ⟨_, rfl, ?_⟩
  refine OpsT.pures (r := []) [2, 3, 4, 5, 6] [4] (S' := [(4, .int .i64 (wi64 ((y2.length : Int) * (if 0 > a1 then 0 else a1))))]) (by kernel_rfl) ?_
  refine OpsT.done ?_
  refine Qn.then ?_
  refine CodT.ret ?_
  have hI := hI.drop
  have e := someS h0
  subst e
  refine Qn.keep [4] (S' := [(4, .int .i64 (wi64 ((y2.length : Int) * (if 0 > a1 then 0 else a1))))]) (by kernel_rfl) ?_
  exact post_ret (v := .int .i64 (wi64 ((y2.length : Int) * (if 0 > a1 then 0 else a1)))) (fun a ha => RunRes.run (vs := [.int .i64 (wi64 ((y2.length : Int) * (if 0 > a1 then 0 else a1)))]) (.tmp (t := 4) (by kernel_rfl) .nil) ha (by kernel_rfl)) ⟨rfl, hI⟩
set_option maxRecDepth 100000 in
set_option maxHeartbeats 4000000 in
/-- cenotaph/pool.places[cenotaph/pool.Use] -/
theorem c45_3 (w0 w : World) (Z : Hp) (A : HP)  (hI : Inv w0 Z w A) (A_a0 : Option Addr) (c_a0 : Nat) (a0 : (List PoolUse)) (hr_a0 : RdS Z c_PoolUse 5 A_a0 c_a0 a0) (r : (List Int)) (h0 : pool_places'' a0 = some r) :
    Calls prog 45 #[.slice A_a0 a0.length c_a0, .func (.func 51) #[] #[], .func (.func 47) #[] #[]] w (fun e w' => ∃ (A1 : Option Addr) (c1 : Nat), e = .returned (.slice A1 r.length c1) ∧ Inv w0 Z w' (star (ownS 3 (cI .i64) 1 A1 c1 r) A)) := by
  refine calls_intro (args := [.slice A_a0 a0.length c_a0, .func (.func 51) #[] #[], .func (.func 47) #[] #[]]) (fn := Go.Proofs.Try.f45) 29 Go.Proofs.Try.func45 (by rfl) Go.Proofs.Try.ntmps45 (by kernel_rfl) ?_
  unfold pool_places'' at h0
  refine CodT.seq ?_
  refine CodT.regionL [0, 1, 2] (by kernel_rfl) ?_
  refine OpsT.cons (Does.boxL (d := 3) (T := 35) (v := .slice A_a0 a0.length c_a0) ([.slice A_a0 a0.length c_a0]) (by kernel_rfl) hI (by kernel_rfl) ?_)
  intro b1 w hI
  refine OpsT.cons (Does.boxL (d := 5) (T := 64) (v := .func (.func 47) #[] #[]) ([.func (.func 47) #[] #[]]) (by kernel_rfl) hI (by kernel_rfl) ?_)
  intro b2 w hI
  refine OpsT.pures (r := []) [2] [1, 3, 5] (S' := [(1, .func (.func 51) #[] #[]), (3, .pointer (some ⟨b1, 0, none⟩)), (5, .pointer (some ⟨b2, 0, none⟩))]) (by kernel_rfl) ?_
  refine OpsT.done ?_
  refine Qn.then ?_
  refine CodT.seq ?_
  refine CodT.regionL [0] (by kernel_rfl) ?_
  refine OpsT.pures (r := []) [0] [1, 3, 5, 7] (S' := [(1, .func (.func 51) #[] #[]), (3, .pointer (some ⟨b1, 0, none⟩)), (5, .pointer (some ⟨b2, 0, none⟩)), (7, .slice none 0 0)]) (by kernel_rfl) ?_
  refine OpsT.done ?_
  refine Qn.then ?_
  refine CodT.seq ?_
  refine CodT.seq ?_
  refine CodT.regionL [0, 1, 2] (by kernel_rfl) ?_
  refine OpsT.cons (Does.yi (Yl.load (d := 10) (T := 35) (v := .slice A_a0 a0.length c_a0) (by kernel_rfl) (ldB ty35 (l := [.slice A_a0 a0.length c_a0]) (o := 0) (v := .slice A_a0 a0.length c_a0) (pick2 _ _ _) (by kernel_rfl))) hI ?_)
  refine OpsT.pures (r := []) [1, 2] [1, 3, 5, 7, 10, 11, 12] (S' := [(1, .func (.func 51) #[] #[]), (3, .pointer (some ⟨b1, 0, none⟩)), (5, .pointer (some ⟨b2, 0, none⟩)), (7, .slice none 0 0), (10, .slice A_a0 a0.length c_a0), (11, .int .i64 (a0.length : Int)), (12, .int .i64 0)]) (by kernel_rfl) ?_
  refine OpsT.done ?_
  refine Qn.then ?_
  obtain ⟨r1, h1, h0⟩ := bindS h0
  refine CodT.meet1 (fun a w => ∃ (x3 : (List Int)) (A4 : Option Addr) (cp5 : Nat), x3 = r1 ∧ Fr 29 [(3, .pointer (some ⟨b1, 0, none⟩)), (5, .pointer (some ⟨b2, 0, none⟩)), (7, .slice A4 x3.length cp5)] a ∧ Inv w0 Z w (star (ownS 3 (cI .i64) 1 A4 cp5 x3) (star (pt b2 (.cells ([.func (.func 47) #[] #[]]).toArray 64 (0, 0))) (star (pt b1 (.cells ([.slice A_a0 a0.length c_a0]).toArray 35 (0, 0))) A)))) ?_ ?_
  ·
    refine CodT.block ?_
    have hI := ownS_nil (α := Int) hI 3 (cI .i64) 1
    refine (fun a ha => wp_loopN (fun k a w => ∃ (x6 : (List Int)) (x9 : Int) (A7 : Option Addr) (cp8 : Nat), pool_places''.l0 a0 k x6 x9 = some r1 ∧ Fr 29 [(1, .func (.func 51) #[] #[]), (3, .pointer (some ⟨b1, 0, none⟩)), (5, .pointer (some ⟨b2, 0, none⟩)), (7, .slice A7 x6.length cp8), (10, .slice A_a0 a0.length c_a0), (11, .int .i64 (a0.length : Int)), (12, .int .i64 x9)] a ∧ Inv w0 Z w (star (ownS 3 (cI .i64) 1 A7 cp8 x6) (star (pt b2 (.cells ([.func (.func 47) #[] #[]]).toArray 64 (0, 0))) (star (pt b1 (.cells ([.slice A_a0 a0.length c_a0]).toArray 35 (0, 0))) A)))) ?_ FU a w ⟨([] : List Int), 0, none, 0, h1, ha.keep [1, 3, 5, 7, 10, 11, 12] (by kernel_rfl), hI⟩)
    clear h1 hI
    rintro k a w ⟨x6, x9, A7, cp8, h1, ha, hI⟩
    rcases k with _ | k
    · cases h1
    simp only [pool_places''.l0] at h1
    refine CodT.of ?_ ha
    refine CodT.seq ?_
    refine CodT.regionL [0] (by kernel_rfl) ?_
    refine OpsT.pures (r := []) [0] [1, 3, 5, 7, 10, 11, 12, 13] (S' := [(1, .func (.func 51) #[] #[]), (3, .pointer (some ⟨b1, 0, none⟩)), (5, .pointer (some ⟨b2, 0, none⟩)), (7, .slice A7 x6.length cp8), (10, .slice A_a0 a0.length c_a0), (11, .int .i64 (a0.length : Int)), (12, .int .i64 x9), (13, .bool (decide (x9 < (a0.length : Int))))]) (by kernel_rfl) ?_
    refine OpsT.done ?_
    refine Qn.then ?_
    refine CodT.seq ?_
    by_cases hb10 : (decide (x9 < (a0.length : Int))) = true
    · rw [if_pos hb10] at h1
      refine CodT.yes' (b := decide (x9 < (a0.length : Int))) (by kernel_rfl) hb10 ?_
      refine CodT.skip ?_
      refine Qn.then ?_
      obtain ⟨r2, h2, h1⟩ := bindS h1
      refine CodT.meet (fun a w => ∃ (x11 : (List Int)) (A12 : Option Addr) (cp13 : Nat), x11 = r2 ∧ Fr 29 [(1, .func (.func 51) #[] #[]), (3, .pointer (some ⟨b1, 0, none⟩)), (5, .pointer (some ⟨b2, 0, none⟩)), (7, .slice A12 x11.length cp13), (10, .slice A_a0 a0.length c_a0), (11, .int .i64 (a0.length : Int)), (12, .int .i64 x9)] a ∧ Inv w0 Z w (star (ownS 3 (cI .i64) 1 A12 cp13 x11) (star (pt b2 (.cells ([.func (.func 47) #[] #[]]).toArray 64 (0, 0))) (star (pt b1 (.cells ([.slice A_a0 a0.length c_a0]).toArray 35 (0, 0))) A)))) ?_ ?_
      ·
        refine CodT.block ?_
        refine CodT.seq ?_
        refine CodT.regionL [0, 1, 2, 3, 4, 5] (by kernel_rfl) ?_
        refine OpsT.pures (r := [1, 2, 3, 4, 5]) [0] [1, 3, 5, 7, 10, 11, 12, 14] (S' := [(1, .func (.func 51) #[] #[]), (3, .pointer (some ⟨b1, 0, none⟩)), (5, .pointer (some ⟨b2, 0, none⟩)), (7, .slice A7 x6.length cp8), (10, .slice A_a0 a0.length c_a0), (11, .int .i64 (a0.length : Int)), (12, .int .i64 x9), (14, .int .i64 x9)]) (by kernel_rfl) ?_
        obtain ⟨hg14, h2⟩ := guardS h2
        obtain ⟨g15, o19, hA16, hr17, hl18⟩ := RdS.get hr_a0 hg14.1 hg14.2
        refine OpsT.cons (Does.yi (Yl.indexSlice (d := 15) (T := 35) (cc := c_a0) (k := .i64) (j := x9) (g := g15) (o := o19) (by kernel_rfl) Go.Proofs.Try.underlying35 ty49 hA16 hg14.1 hg14.2) hI ?_)
        refine OpsT.cons (Does.yi (Yl.load (d := 16) (T := 49) (v := .agg (c_PoolUse (gt a0 x9)).toArray) (by kernel_rfl) (ldRN ty49 (cs := c_PoolUse (gt a0 x9)) 0 (fun w hC => hr17 w0 w _ hC) hl18 (whole _ _ hl18))) hI ?_)
        refine OpsT.cons (Does.allocL (d := 9) (T := 49) (c_PoolUse (PoolUse.mk 0 0 0 false false)) (by kernel_rfl) ty49 hI (by kernel_rfl) ?_)
        intro b20 w hI
        refine OpsT.pures (r := [5]) [4] [1, 3, 5, 7, 8, 9, 10, 11, 12, 16] (S' := [(1, .func (.func 51) #[] #[]), (3, .pointer (some ⟨b1, 0, none⟩)), (5, .pointer (some ⟨b2, 0, none⟩)), (7, .slice A7 x6.length cp8), (8, .int .i64 x9), (9, .pointer (some ⟨b20, 0, none⟩)), (10, .slice A_a0 a0.length c_a0), (11, .int .i64 (a0.length : Int)), (12, .int .i64 x9), (16, .agg (c_PoolUse (gt a0 x9)).toArray)]) (by kernel_rfl) ?_
        refine OpsT.cons (Does.storeLit (T := 49) (b := b20) (o := 0) (v := .agg (c_PoolUse (gt a0 x9)).toArray) (l := c_PoolUse (PoolUse.mk 0 0 0 false false)) (vs := c_PoolUse (gt a0 x9)) (L' := c_PoolUse (gt a0 x9)) (by kernel_rfl) ty49 hI (by kernel_rfl) (by kernel_rfl) (by kernel_rfl) (by kernel_rfl) (by kernel_rfl) ?_)
        intro w hI
        refine OpsT.done ?_
        refine Qn.then ?_
        refine CodT.seq ?_
        refine CodT.regionL [0, 1, 2] (by kernel_rfl) ?_
        refine OpsT.pures (r := [1, 2]) [0] [1, 3, 5, 7, 8, 9, 10, 11, 12, 17] (S' := [(1, .func (.func 51) #[] #[]), (3, .pointer (some ⟨b1, 0, none⟩)), (5, .pointer (some ⟨b2, 0, none⟩)), (7, .slice A7 x6.length cp8), (8, .int .i64 x9), (9, .pointer (some ⟨b20, 0, none⟩)), (10, .slice A_a0 a0.length c_a0), (11, .int .i64 (a0.length : Int)), (12, .int .i64 x9), (17, .func (.func 51) #[] #[])]) (by kernel_rfl) ?_
        refine OpsT.cons (Does.yi (Yl.load (d := 18) (T := 49) (v := .agg (c_PoolUse (gt a0 x9)).toArray) (by kernel_rfl) (ldBN ty49 (l := c_PoolUse (gt a0 x9)) (o := 0) (cs := c_PoolUse (gt a0 x9)) (ent_refl _) (by kernel_rfl) (whole _ _ (by kernel_rfl)))) hI ?_)
        obtain ⟨y22, hc21, h2⟩ := bindS h2
        try dsimp only at h2
        refine OpsT.cons (Does.call (d := some 19) (n := 51) (vs := [.agg (c_PoolUse (gt a0 x9)).toArray]) (by kernel_rfl) en51 (c51 w0 w _ _ hI (gt a0 x9) _ hc21) ?_)
        rintro e w ⟨rfl, hI⟩
        refine ⟨_, rfl, ?_⟩
        refine OpsT.done ?_
        refine Qn.then ?_
        by_cases hb23 : y22 = true
        · rw [if_pos hb23] at h2
          refine CodT.yes' (b := y22) (by kernel_rfl) hb23 ?_
          refine CodT.regionL [0, 1, 2, 3, 4] (by kernel_rfl) ?_
          refine OpsT.pures (r := [2, 3, 4]) [0, 1] [1, 3, 5, 10, 11, 12, 20, 21] (S' := [(1, .func (.func 51) #[] #[]), (3, .pointer (some ⟨b1, 0, none⟩)), (5, .pointer (some ⟨b2, 0, none⟩)), (10, .slice A_a0 a0.length c_a0), (11, .int .i64 (a0.length : Int)), (12, .int .i64 x9), (20, .slice A7 x6.length cp8), (21, .int .i64 x9)]) (by kernel_rfl) ?_
          refine OpsT.cons (Does.buildSlice (en := (cI .i64)) (d := 22) (n := 1) (T := 40) (ps := [(0, .int .i64 x9)]) ([x9] : List Int) (by kernel_rfl) Go.Proofs.Try.underlying40 ty3 (by kernel_rfl) (by kernel_rfl) (by kernel_rfl) (by kernel_rfl) (len_all (fun _ => rfl)) hI ?_)
          intro b24 w hI
          obtain ⟨hg25, h2⟩ := guardS h2
          have hI := hI.mono (pick3 _ _ _ _)
          refine OpsT.cons (Does.append (d := 23) (t := 40) (tx := 40) (ty := 40) (ys := x6) (zs := ([x9] : List Int)) (x := .slice (some ⟨b24, 0, none⟩) (([x9] : List Int).length) 1) (by kernel_rfl) Go.Proofs.Try.underlying40 ty3 (by kernel_rfl) hI (src_own Go.Proofs.Try.underlying40 (hI.mono (pick2 _ _ _)) (one_flat _ (fun _ => rfl))) (ownS_facts (hI.mono (pick2 _ _ _))).2.2 (by unfold LIM at hg25; omega) hg25 ?_)
          intro A26 cp27 w hI
          refine OpsT.pures (r := []) [4] [1, 3, 5, 7, 10, 11, 12] (S' := [(1, .func (.func 51) #[] #[]), (3, .pointer (some ⟨b1, 0, none⟩)), (5, .pointer (some ⟨b2, 0, none⟩)), (7, .slice A26 ((x6 ++ ([x9] : List Int)).length) cp27), (10, .slice A_a0 a0.length c_a0), (11, .int .i64 (a0.length : Int)), (12, .int .i64 x9)]) (by kernel_rfl) ?_
          refine OpsT.done ?_
          refine Qn.block_normal ?_
          have hI := hI.mono (pick2 _ _ _)
          have hI := hI.drop
          have hI := hI.mono (pick2 _ _ _)
          have hI := hI.drop
          have e := someS h2
          subst e
          exact Qn.thenJ fun a ha => ⟨x6 ++ ([x9] : List Int), A26, cp27, rfl, ha.keep [1, 3, 5, 7, 10, 11, 12] (by kernel_rfl), hI⟩
        · rw [if_neg hb23] at h2
          refine CodT.no' (b := y22) (by kernel_rfl) (by simpa using hb23) ?_
          refine CodT.skip ?_
          refine Qn.block_normal ?_
          have hI := hI.drop
          have e := someS h2
          subst e
          exact Qn.thenJ fun a ha => ⟨x6, A7, cp8, rfl, ha.keep [1, 3, 5, 7, 10, 11, 12] (by kernel_rfl), hI⟩
      ·
        rintro a w ⟨x11, A12, cp13, rfl, ha, hI⟩
        try dsimp only at h1
        refine CodT.of ?_ ha
        refine CodT.regionL [0, 1] (by kernel_rfl) ?_
        refine OpsT.pures (r := []) [0, 1] [1, 3, 5, 7, 10, 11, 12] (S' := [(1, .func (.func 51) #[] #[]), (3, .pointer (some ⟨b1, 0, none⟩)), (5, .pointer (some ⟨b2, 0, none⟩)), (7, .slice A12 x11.length cp13), (10, .slice A_a0 a0.length c_a0), (11, .int .i64 (a0.length : Int)), (12, .int .i64 (wi64 (x9 + 1)))]) (by kernel_rfl) ?_
        refine OpsT.done ?_
        exact Qn.thenJ fun a ha => ⟨k, Nat.lt_succ_self k, x11, wi64 (x9 + 1), A12, cp13, h1, ha.keep [1, 3, 5, 7, 10, 11, 12] (by kernel_rfl), hI⟩
    · rw [if_neg hb10] at h1
      refine CodT.no' (b := decide (x9 < (a0.length : Int))) (by kernel_rfl) (by simpa using hb10) ?_
      refine CodT.exit ?_
      refine Qn.exit_then ?_
      refine Qn.exit_then ?_
      refine Qn.block ?_
      have e := someS h1
      subst e
      exact Qn.thenJ fun a ha => ⟨x6, A7, cp8, rfl, ha.keep [3, 5, 7] (by kernel_rfl), hI⟩
  ·
    rintro a w ⟨x3, A4, cp5, rfl, ha, hI⟩
    try dsimp only at h0
    refine Qn.of ?_ ha
    refine Qn.then ?_
    refine CodT.seq ?_
    have hI := hI.mono (pick2 _ _ _)
    obtain ⟨Z28, hle29, hz30, hI⟩ := pt_freeze hI
    have hI := hI.mono (pick2 _ _ _)
    obtain ⟨Z31, hle32, hz33, hI⟩ := pt_freeze hI
    refine CodT.regionL [0, 1, 2] (by kernel_rfl) ?_
    refine OpsT.pures (r := [2]) [0, 1] [7, 25, 26] (S' := [(7, .slice A4 x3.length cp5), (25, .slice A4 x3.length cp5), (26, .func (.func 62) #[] #[.pointer (some ⟨b2, 0, none⟩), .pointer (some ⟨b1, 0, none⟩)])]) (by kernel_rfl) ?_
    obtain ⟨y35, hc34, h0⟩ := bindS h0
    try dsimp only at h0
    refine OpsT.cons (Does.call (d := some 27) (n := 61) (vs := [.slice A4 x3.length cp5, .func (.func 62) #[] #[.pointer (some ⟨b2, 0, none⟩), .pointer (some ⟨b1, 0, none⟩)]]) (by kernel_rfl) en61 (c61 w0 w _ _ A4 cp5 x3 b2 (hle32 _ _ hz30) b1 A_a0 c_a0 a0 (hr_a0.mono (Hp.le_trans hle29 hle32)) hz33 hI _ hc34) ?_)
    rintro e w ⟨rfl, hm36, hI⟩
    refine ⟨_, rfl, ?_⟩
    refine OpsT.keep [7, 25, 26, 27] (S' := [(7, .slice A4 y35.length cp5), (25, .slice A4 y35.length cp5), (26, .func (.func 62) #[] #[.pointer (some ⟨b2, 0, none⟩), .pointer (some ⟨b1, 0, none⟩)]), (27, .tuple #[])]) (by simp only [hm36]; kernel_rfl) ?_
    refine OpsT.done ?_
    refine Qn.then ?_
    refine CodT.seq ?_
    refine CodT.regionL [0, 1] (by kernel_rfl) ?_
    refine OpsT.pures (r := []) [0, 1] [6] (S' := [(6, .slice A4 y35.length cp5)]) (by kernel_rfl) ?_
    refine OpsT.done ?_
    refine Qn.then ?_
    refine CodT.ret ?_
    have e := someS h0
    subst e
    refine Qn.keep [6] (S' := [(6, .slice A4 y35.length cp5)]) (by kernel_rfl) ?_
    exact post_ret (v := .slice A4 y35.length cp5) (fun a ha => RunRes.run (vs := [.slice A4 y35.length cp5]) (.tmp (t := 6) (by kernel_rfl) .nil) ha (by kernel_rfl)) ⟨A4, cp5, rfl, hI.weaken (Hp.le_trans hle29 hle32)⟩
set_option maxRecDepth 100000 in
set_option maxHeartbeats 4000000 in
/-- cenotaph/pool.Even$1 -/
theorem c56 (w0 w : World) (Z : Hp) (A : HP)  (hI : Inv w0 Z w A) (a0 : PoolUse) (b_a1 : Nat) (A_a1_v : Option Addr) (c_a1_v : Nat) (a1_v : (List PoolUse)) (hr_a1_v : RdS Z c_PoolUse 5 A_a1_v c_a1_v a1_v) (hz_a1 : Z b_a1 = some (.cells ([.slice A_a1_v a1_v.length c_a1_v]).toArray 35 (0, 0))) (b_a2 : Nat) (a2_v : Int) (hz_a2 : Z b_a2 = some (.cells ([.int .i64 a2_v]).toArray 3 (0, 0))) (r : Bool) (h0 : pool_Even_1 a0 a1_v a2_v = some r) :
    Calls prog 56 #[.agg (c_PoolUse a0).toArray, .pointer (some ⟨b_a1, 0, none⟩), .pointer (some ⟨b_a2, 0, none⟩)] w (fun e w' => e = .returned (.bool r) ∧ Inv w0 Z w' A) := by
  refine calls_intro (args := [.agg (c_PoolUse a0).toArray, .pointer (some ⟨b_a1, 0, none⟩), .pointer (some ⟨b_a2, 0, none⟩)]) (fn := Go.Proofs.Try.f56) 18 Go.Proofs.Try.func56 (by rfl) Go.Proofs.Try.ntmps56 (by kernel_rfl) ?_
  unfold pool_Even_1 at h0
  refine CodT.seq ?_
  refine CodT.regionL [0, 1] (by kernel_rfl) ?_
  refine OpsT.cons (Does.boxL (d := 3) (T := 49) (v := .agg (c_PoolUse a0).toArray) (c_PoolUse a0) (by kernel_rfl) hI (by kernel_rfl) ?_)
  intro b1 w hI
  refine OpsT.pures (r := []) [1] [1, 2, 3] (S' := [(1, .pointer (some ⟨b_a1, 0, none⟩)), (2, .pointer (some ⟨b_a2, 0, none⟩)), (3, .pointer (some ⟨b1, 0, none⟩))]) (by kernel_rfl) ?_
  refine OpsT.done ?_
  refine Qn.then ?_
  obtain ⟨r1, h1, h0⟩ := bindS h0
  refine CodT.meet (fun a w => ∃ (x2 : Bool), x2 = r1 ∧ Fr 18 [(4, .bool x2)] a ∧ Inv w0 Z w A) ?_ ?_
  ·
    refine CodT.drawI (n := 14) [] (by kernel_rfl) (by kernel_rfl) hI ?_
    intro w hI
    refine GmT.r (i := 0) 2 (by kernel_rfl) (by kernel_rfl) (Yl.load (d := 5) (T := 49) (v := .agg (c_PoolUse a0).toArray) (by kernel_rfl) (ldBN ty49 (l := c_PoolUse a0) (o := 0) (cs := c_PoolUse a0) (ent_refl _) (by kernel_rfl) (whole _ _ (by kernel_rfl)))) hI ?_
    obtain ⟨y4, hc3, h1⟩ := bindS h1
    try dsimp only at h1
    refine GmT.o (i := 1) (by kernel_rfl) (Does.call (d := some 6) (n := 46) (vs := [.agg (c_PoolUse a0).toArray]) (by kernel_rfl) en46 (c46 w0 w _ _ hI a0 _ hc3) ?_)
    rintro e w ⟨rfl, hI⟩
    refine ⟨_, rfl, ?_⟩
    refine ⟨fun _ _ => hI, ?_⟩
    refine GmT.p' 2 7 (.bool y4) (by kernel_rfl) (by kernel_rfl) ?_
    by_cases hb5 : y4 = true
    · rw [if_pos hb5] at h1
      refine GmT.keep [1, 2, 3, 7] (S' := [(1, .pointer (some ⟨b_a1, 0, none⟩)), (2, .pointer (some ⟨b_a2, 0, none⟩)), (3, .pointer (some ⟨b1, 0, none⟩)), (7, .bool true)]) (by simp only [hb5]; kernel_rfl) ?_
      refine GmT.p' 3 8 (.pointer (some ⟨b1, 2, none⟩)) (by kernel_rfl) (by kernel_rfl) ?_
      refine GmT.r (i := 4) 2 (by kernel_rfl) (by kernel_rfl) (Yl.load (d := 9) (T := 3) (v := .int .i64 a0.Worn) (by kernel_rfl) (ldB ty3 (l := c_PoolUse a0) (o := 2) (v := .int .i64 a0.Worn) (ent_refl _) (by kernel_rfl))) hI ?_
      refine GmT.p' 5 10 (.int .i64 (wi64 (a0.Worn - 8))) (by kernel_rfl) (by kernel_rfl) ?_
      refine GmT.r (i := 6) 2 (by kernel_rfl) (by kernel_rfl) (Yl.load (d := 11) (T := 35) (v := .slice A_a1_v a1_v.length c_a1_v) (by kernel_rfl) (ldZ ty35 (l := [.slice A_a1_v a1_v.length c_a1_v]) (o := 0) (v := .slice A_a1_v a1_v.length c_a1_v) hz_a1 (by kernel_rfl))) hI ?_
      refine GmT.r (i := 7) 2 (by kernel_rfl) (by kernel_rfl) (Yl.load (d := 12) (T := 3) (v := .int .i64 a2_v) (by kernel_rfl) (ldZ ty3 (l := [.int .i64 a2_v]) (o := 0) (v := .int .i64 a2_v) hz_a2 (by kernel_rfl))) hI ?_
      obtain ⟨hg6, h1⟩ := guardS h1
      obtain ⟨g7, o11, hA8, hr9, hl10⟩ := RdS.get hr_a1_v hg6.1 hg6.2
      refine GmT.r (i := 8) 2 (by kernel_rfl) (by kernel_rfl) (Yl.indexSlice (d := 13) (T := 35) (cc := c_a1_v) (k := .i64) (j := a2_v) (g := g7) (o := o11) (by kernel_rfl) Go.Proofs.Try.underlying35 ty49 hA8 hg6.1 hg6.2) hI ?_
      refine GmT.p' 9 14 (.pointer (some ⟨g7, o11 + a2_v.toNat * 5 + 2, none⟩)) (by kernel_rfl) (by kernel_rfl) ?_
      refine GmT.r (i := 10) 2 (by kernel_rfl) (by kernel_rfl) (Yl.load (d := 15) (T := 3) (v := .int .i64 ((gt a1_v a2_v).Worn)) (by kernel_rfl) (ldR ty3 (v := .int .i64 ((gt a1_v a2_v).Worn)) 2 (fun w hC => hr9 w0 w _ hC) (by kernel_rfl))) hI ?_
      refine GmT.p' 11 16 (.bool (decide ((wi64 (a0.Worn - 8)) ≥ ((gt a1_v a2_v).Worn)))) (by kernel_rfl) (by kernel_rfl) ?_
      refine GmT.p' 12 17 (.bool (decide ((wi64 (a0.Worn - 8)) ≥ ((gt a1_v a2_v).Worn)))) (by kernel_rfl) (by kernel_rfl) ?_
      refine GmT.p' 13 4 (.bool (decide ((wi64 (a0.Worn - 8)) ≥ ((gt a1_v a2_v).Worn)))) (by kernel_rfl) (by kernel_rfl) ?_
      refine GmT.done (by kernel_rfl) ?_
      have hI := hI.drop
      have e := someS h1
      subst e
      exact Qn.thenJ fun a ha => ⟨decide ((wi64 (a0.Worn - 8)) ≥ ((gt a1_v a2_v).Worn)), rfl, ha.keep [4] (by kernel_rfl), hI⟩
    · rw [if_neg hb5] at h1
      have hb5 : y4 = false := by simpa using hb5
      refine GmT.keep [1, 2, 3, 7] (S' := [(1, .pointer (some ⟨b_a1, 0, none⟩)), (2, .pointer (some ⟨b_a2, 0, none⟩)), (3, .pointer (some ⟨b1, 0, none⟩)), (7, .bool false)]) (by simp only [hb5]; kernel_rfl) ?_
      refine GmT.p' 3 8 (undef) (by kernel_rfl) (by kernel_rfl) ?_
      refine GmT.p' 4 9 (undef) (by kernel_rfl) (by kernel_rfl) ?_
      refine GmT.p' 5 10 (undef) (by kernel_rfl) (by kernel_rfl) ?_
      refine GmT.p' 6 11 (undef) (by kernel_rfl) (by kernel_rfl) ?_
      refine GmT.p' 7 12 (undef) (by kernel_rfl) (by kernel_rfl) ?_
      refine GmT.p' 8 13 (undef) (by kernel_rfl) (by kernel_rfl) ?_
      refine GmT.p' 9 14 (undef) (by kernel_rfl) (by kernel_rfl) ?_
      refine GmT.p' 10 15 (undef) (by kernel_rfl) (by kernel_rfl) ?_
      refine GmT.p' 11 16 (undef) (by kernel_rfl) (by kernel_rfl) ?_
      refine GmT.p' 12 17 (.bool false) (by kernel_rfl) (by kernel_rfl) ?_
      refine GmT.p' 13 4 (.bool false) (by kernel_rfl) (by kernel_rfl) ?_
      refine GmT.done (by kernel_rfl) ?_
      have hI := hI.drop
      have e := someS h1
      subst e
      exact Qn.thenJ fun a ha => ⟨false, rfl, ha.keep [4] (by kernel_rfl), hI⟩
  ·
    rintro a w ⟨x2, rfl, ha, hI⟩
    try dsimp only at h0
    refine CodT.of ?_ ha
    refine CodT.ret ?_
    have e := someS h0
    subst e
    refine Qn.keep [4] (S' := [(4, .bool x2)]) (by kernel_rfl) ?_
    exact post_ret (v := .bool x2) (fun a ha => RunRes.run (vs := [.bool x2]) (.tmp (t := 4) (by kernel_rfl) .nil) ha (by kernel_rfl)) ⟨rfl, hI⟩
set_option maxRecDepth 100000 in
set_option maxHeartbeats 4000000 in
/-- slices.IndexFunc[[]cenotaph/pool.Use,cenotaph/pool.Use] -/
theorem c64 (w0 w : World) (Z : Hp) (A : HP)  (hI : Inv w0 Z w A) (A_a0 : Option Addr) (c_a0 : Nat) (a0 : (List PoolUse)) (hr_a0 : RdS Z c_PoolUse 5 A_a0 c_a0 a0) (b_a1_c0 : Nat) (A_a1_c0_v : Option Addr) (c_a1_c0_v : Nat) (a1_c0_v : (List PoolUse)) (hr_a1_c0_v : RdS Z c_PoolUse 5 A_a1_c0_v c_a1_c0_v a1_c0_v) (hz_a1_c0 : Z b_a1_c0 = some (.cells ([.slice A_a1_c0_v a1_c0_v.length c_a1_c0_v]).toArray 35 (0, 0))) (b_a1_c1 : Nat) (a1_c1_v : Int) (hz_a1_c1 : Z b_a1_c1 = some (.cells ([.int .i64 a1_c1_v]).toArray 3 (0, 0))) (r : Int) (h0 : slices_IndexFunc a0 a1_c0_v a1_c1_v = some r) :
    Calls prog 64 #[.slice A_a0 a0.length c_a0, .func (.func 56) #[] #[.pointer (some ⟨b_a1_c0, 0, none⟩), .pointer (some ⟨b_a1_c1, 0, none⟩)]] w (fun e w' => e = .returned (.int .i64 r) ∧ Inv w0 Z w' A) := by
  refine calls_intro (args := [.slice A_a0 a0.length c_a0, .func (.func 56) #[] #[.pointer (some ⟨b_a1_c0, 0, none⟩), .pointer (some ⟨b_a1_c1, 0, none⟩)]]) (fn := Go.Proofs.Try.f64) 19 Go.Proofs.Try.func64 (by rfl) Go.Proofs.Try.ntmps64 (by kernel_rfl) ?_
  unfold slices_IndexFunc at h0
  refine CodT.seq ?_
  refine CodT.regionL [0] (by kernel_rfl) ?_
  refine OpsT.pures (r := []) [0] [0, 1] (S' := [(0, .slice A_a0 a0.length c_a0), (1, .func (.func 56) #[] #[.pointer (some ⟨b_a1_c0, 0, none⟩), .pointer (some ⟨b_a1_c1, 0, none⟩)])]) (by kernel_rfl) ?_
  refine OpsT.done ?_
  refine Qn.then ?_
  refine CodT.seq ?_
  refine CodT.seq ?_
  refine CodT.regionL [0, 1, 2] (by kernel_rfl) ?_
  refine OpsT.pures (r := []) [0, 1, 2] [0, 1, 7, 8] (S' := [(0, .slice A_a0 a0.length c_a0), (1, .func (.func 56) #[] #[.pointer (some ⟨b_a1_c0, 0, none⟩), .pointer (some ⟨b_a1_c1, 0, none⟩)]), (7, .int .i64 (a0.length : Int)), (8, .int .i64 0)]) (by kernel_rfl) ?_
  refine OpsT.done ?_
  refine Qn.then ?_
  obtain ⟨r1, h1, h0⟩ := bindS h0
  refine CodT.meet1 (fun a w => .inr () = r1 ∧ Fr 19 [] a ∧ Inv w0 Z w A) ?_ ?_
  ·
    refine CodT.block ?_
    refine (fun a ha => wp_loopN (fun k a w => ∃ (x1 : Int), slices_IndexFunc.l0 a0 a1_c0_v a1_c1_v k x1 = some r1 ∧ Fr 19 [(0, .slice A_a0 a0.length c_a0), (1, .func (.func 56) #[] #[.pointer (some ⟨b_a1_c0, 0, none⟩), .pointer (some ⟨b_a1_c1, 0, none⟩)]), (7, .int .i64 (a0.length : Int)), (8, .int .i64 x1)] a ∧ Inv w0 Z w A) ?_ FU a w ⟨0, h1, ha.keep [0, 1, 7, 8] (by kernel_rfl), hI⟩)
    clear h1 hI
    rintro k a w ⟨x1, h1, ha, hI⟩
    rcases k with _ | k
    · cases h1
    simp only [slices_IndexFunc.l0] at h1
    refine CodT.of ?_ ha
    refine CodT.seq ?_
    refine CodT.regionL [0] (by kernel_rfl) ?_
    refine OpsT.pures (r := []) [0] [0, 1, 7, 8, 9] (S' := [(0, .slice A_a0 a0.length c_a0), (1, .func (.func 56) #[] #[.pointer (some ⟨b_a1_c0, 0, none⟩), .pointer (some ⟨b_a1_c1, 0, none⟩)]), (7, .int .i64 (a0.length : Int)), (8, .int .i64 x1), (9, .bool (decide (x1 < (a0.length : Int))))]) (by kernel_rfl) ?_
    refine OpsT.done ?_
    refine Qn.then ?_
    refine CodT.seq ?_
    by_cases hb2 : (decide (x1 < (a0.length : Int))) = true
    · rw [if_pos hb2] at h1
      refine CodT.yes' (b := decide (x1 < (a0.length : Int))) (by kernel_rfl) hb2 ?_
      refine CodT.skip ?_
      refine Qn.then ?_
      refine CodT.seq ?_
      refine CodT.block ?_
      refine CodT.seq ?_
      refine CodT.regionL [0, 1] (by kernel_rfl) ?_
      refine OpsT.pures (r := []) [0, 1] [0, 1, 5, 7, 8] (S' := [(0, .slice A_a0 a0.length c_a0), (1, .func (.func 56) #[] #[.pointer (some ⟨b_a1_c0, 0, none⟩), .pointer (some ⟨b_a1_c1, 0, none⟩)]), (5, .int .i64 x1), (7, .int .i64 (a0.length : Int)), (8, .int .i64 x1)]) (by kernel_rfl) ?_
      refine OpsT.done ?_
      refine Qn.then ?_
      refine CodT.seq ?_
      refine CodT.regionL [0, 1, 2, 3, 4, 5] (by kernel_rfl) ?_
      refine OpsT.pures (r := [3, 4, 5]) [0, 1, 2] [0, 1, 5, 7, 8, 11, 12, 13] (S' := [(0, .slice A_a0 a0.length c_a0), (1, .func (.func 56) #[] #[.pointer (some ⟨b_a1_c0, 0, none⟩), .pointer (some ⟨b_a1_c1, 0, none⟩)]), (5, .int .i64 x1), (7, .int .i64 (a0.length : Int)), (8, .int .i64 x1), (11, .func (.func 56) #[] #[.pointer (some ⟨b_a1_c0, 0, none⟩), .pointer (some ⟨b_a1_c1, 0, none⟩)]), (12, .slice A_a0 a0.length c_a0), (13, .int .i64 x1)]) (by kernel_rfl) ?_
      obtain ⟨hg3, h1⟩ := guardS h1
      obtain ⟨g4, o8, hA5, hr6, hl7⟩ := RdS.get hr_a0 hg3.1 hg3.2
      refine OpsT.cons (Does.yi (Yl.indexSlice (d := 14) (T := 35) (cc := c_a0) (k := .i64) (j := x1) (g := g4) (o := o8) (by kernel_rfl) Go.Proofs.Try.underlying35 ty49 hA5 hg3.1 hg3.2) hI ?_)
      refine OpsT.cons (Does.yi (Yl.load (d := 15) (T := 49) (v := .agg (c_PoolUse (gt a0 x1)).toArray) (by kernel_rfl) (ldRN ty49 (cs := c_PoolUse (gt a0 x1)) 0 (fun w hC => hr6 w0 w _ hC) hl7 (whole _ _ hl7))) hI ?_)
      obtain ⟨y10, hc9, h1⟩ := bindS h1
      try dsimp only at h1
      refine OpsT.cons (Does.call (d := some 16) (n := 56) (vs := [.agg (c_PoolUse (gt a0 x1)).toArray, .pointer (some ⟨b_a1_c0, 0, none⟩), .pointer (some ⟨b_a1_c1, 0, none⟩)]) (by kernel_rfl) en56 (c56 w0 w _ _ hI (gt a0 x1) b_a1_c0 A_a1_c0_v c_a1_c0_v a1_c0_v hr_a1_c0_v hz_a1_c0 b_a1_c1 a1_c1_v hz_a1_c1 _ hc9) ?_)
      rintro e w ⟨rfl, hI⟩
      refine ⟨_, rfl, ?_⟩
      refine OpsT.done ?_
      refine Qn.then ?_
      by_cases hb11 : y10 = true
      · rw [if_pos hb11] at h1
        refine CodT.yes' (b := y10) (by kernel_rfl) hb11 ?_
        refine CodT.seq ?_
        refine CodT.regionL [0, 1] (by kernel_rfl) ?_
        refine OpsT.pures (r := []) [0, 1] [4] (S' := [(4, .int .i64 x1)]) (by kernel_rfl) ?_
        refine OpsT.done ?_
        refine Qn.then ?_
        refine CodT.ret ?_
        refine Qn.block_ret ?_
        refine Qn.ret_then ?_
        refine Qn.ret_then ?_
        refine Qn.block_ret ?_
        refine Qn.ret_then ?_
        refine Qn.ret_then ?_
        have e := someS h1
        subst e
        try dsimp only at h0
        have e := someS h0
        subst e
        refine Qn.keep [4] (S' := [(4, .int .i64 x1)]) (by kernel_rfl) ?_
        exact post_ret (v := .int .i64 x1) (fun a ha => RunRes.run (vs := [.int .i64 x1]) (.tmp (t := 4) (by kernel_rfl) .nil) ha (by kernel_rfl)) ⟨rfl, hI⟩
      · rw [if_neg hb11] at h1
        refine CodT.no' (b := y10) (by kernel_rfl) (by simpa using hb11) ?_
        refine CodT.skip ?_
        refine Qn.block_normal ?_
        refine Qn.then ?_
        refine CodT.regionL [0, 1] (by kernel_rfl) ?_
        refine OpsT.pures (r := []) [0, 1] [0, 1, 7, 8] (S' := [(0, .slice A_a0 a0.length c_a0), (1, .func (.func 56) #[] #[.pointer (some ⟨b_a1_c0, 0, none⟩), .pointer (some ⟨b_a1_c1, 0, none⟩)]), (7, .int .i64 (a0.length : Int)), (8, .int .i64 (wi64 (x1 + 1)))]) (by kernel_rfl) ?_
        refine OpsT.done ?_
        exact Qn.thenJ fun a ha => ⟨k, Nat.lt_succ_self k, wi64 (x1 + 1), h1, ha.keep [0, 1, 7, 8] (by kernel_rfl), hI⟩
    · rw [if_neg hb2] at h1
      refine CodT.no' (b := decide (x1 < (a0.length : Int))) (by kernel_rfl) (by simpa using hb2) ?_
      refine CodT.exit ?_
      refine Qn.exit_then ?_
      refine Qn.exit_then ?_
      refine Qn.block ?_
      have e := someS h1
      subst e
      exact Qn.thenJ fun a ha => ⟨rfl, ha.keep [] (by kernel_rfl), hI⟩
  ·
    rintro a w ⟨rfl, ha, hI⟩
    try dsimp only at h0
    refine Qn.of ?_ ha
    refine Qn.then ?_
    refine CodT.seq ?_
    refine CodT.regionL [0] (by kernel_rfl) ?_
    refine OpsT.pures (r := []) [0] [4] (S' := [(4, .int .i64 (-1))]) (by kernel_rfl) ?_
    refine OpsT.done ?_
    refine Qn.then ?_
    refine CodT.ret ?_
    have e := someS h0
    subst e
    refine Qn.keep [4] (S' := [(4, .int .i64 (-1))]) (by kernel_rfl) ?_
    exact post_ret (v := .int .i64 (-1)) (fun a ha => RunRes.run (vs := [.int .i64 (-1)]) (.tmp (t := 4) (by kernel_rfl) .nil) ha (by kernel_rfl)) ⟨rfl, hI⟩
set_option maxRecDepth 100000 in
set_option maxHeartbeats 4000000 in
/-- slices.ContainsFunc[[]cenotaph/pool.Use,cenotaph/pool.Use] -/
theorem c55 (w0 w : World) (Z : Hp) (A : HP)  (hI : Inv w0 Z w A) (A_a0 : Option Addr) (c_a0 : Nat) (a0 : (List PoolUse)) (hr_a0 : RdS Z c_PoolUse 5 A_a0 c_a0 a0) (b_a1_c0 : Nat) (A_a1_c0_v : Option Addr) (c_a1_c0_v : Nat) (a1_c0_v : (List PoolUse)) (hr_a1_c0_v : RdS Z c_PoolUse 5 A_a1_c0_v c_a1_c0_v a1_c0_v) (hz_a1_c0 : Z b_a1_c0 = some (.cells ([.slice A_a1_c0_v a1_c0_v.length c_a1_c0_v]).toArray 35 (0, 0))) (b_a1_c1 : Nat) (a1_c1_v : Int) (hz_a1_c1 : Z b_a1_c1 = some (.cells ([.int .i64 a1_c1_v]).toArray 3 (0, 0))) (r : Bool) (h0 : slices_ContainsFunc a0 a1_c0_v a1_c1_v = some r) :
    Calls prog 55 #[.slice A_a0 a0.length c_a0, .func (.func 56) #[] #[.pointer (some ⟨b_a1_c0, 0, none⟩), .pointer (some ⟨b_a1_c1, 0, none⟩)]] w (fun e w' => e = .returned (.bool r) ∧ Inv w0 Z w' A) := by
  refine calls_intro (args := [.slice A_a0 a0.length c_a0, .func (.func 56) #[] #[.pointer (some ⟨b_a1_c0, 0, none⟩), .pointer (some ⟨b_a1_c1, 0, none⟩)]]) (fn := Go.Proofs.Try.f55) 9 Go.Proofs.Try.func55 (by rfl) Go.Proofs.Try.ntmps55 (by kernel_rfl) ?_
  unfold slices_ContainsFunc at h0
  refine CodT.seq ?_
  refine CodT.regionL [0] (by kernel_rfl) ?_
  refine OpsT.pures (r := []) [0] [0, 1] (S' := [(0, .slice A_a0 a0.length c_a0), (1, .func (.func 56) #[] #[.pointer (some ⟨b_a1_c0, 0, none⟩), .pointer (some ⟨b_a1_c1, 0, none⟩)])]) (by kernel_rfl) ?_
  refine OpsT.done ?_
  refine Qn.then ?_
  refine CodT.seq ?_
  refine CodT.regionL [0, 1, 2, 3, 4] (by kernel_rfl) ?_
  refine OpsT.pures (r := [2, 3, 4]) [0, 1] [5, 6] (S' := [(5, .slice A_a0 a0.length c_a0), (6, .func (.func 56) #[] #[.pointer (some ⟨b_a1_c0, 0, none⟩), .pointer (some ⟨b_a1_c1, 0, none⟩)])]) (by kernel_rfl) ?_
  obtain ⟨y2, hc1, h0⟩ := bindS h0
  try dsimp only at h0
  refine OpsT.cons (Does.call (d := some 7) (n := 64) (vs := [.slice A_a0 a0.length c_a0, .func (.func 56) #[] #[.pointer (some ⟨b_a1_c0, 0, none⟩), .pointer (some ⟨b_a1_c1, 0, none⟩)]]) (by kernel_rfl) en64 (c64 w0 w _ _ hI A_a0 c_a0 a0 hr_a0 b_a1_c0 A_a1_c0_v c_a1_c0_v a1_c0_v hr_a1_c0_v hz_a1_c0 b_a1_c1 a1_c1_v hz_a1_c1 _ hc1) ?_)
  rintro e w ⟨rfl, hI⟩
  refine ⟨_, rfl, ?_⟩
  refine OpsT.pures (r := []) [3, 4] [4] (S' := [(4, .bool (decide (y2 ≥ 0)))]) (by kernel_rfl) ?_
  refine OpsT.done ?_
  refine Qn.then ?_
  refine CodT.ret ?_
  have e := someS h0
  subst e
  refine Qn.keep [4] (S' := [(4, .bool (decide (y2 ≥ 0)))]) (by kernel_rfl) ?_
  exact post_ret (v := .bool (decide (y2 ≥ 0))) (fun a ha => RunRes.run (vs := [.bool (decide (y2 ≥ 0))]) (.tmp (t := 4) (by kernel_rfl) .nil) ha (by kernel_rfl)) ⟨rfl, hI⟩
set_option maxRecDepth 100000 in
set_option maxHeartbeats 4000000 in
/-- cenotaph/pool.Even -/
theorem c36 (w0 w : World) (Z : Hp) (A : HP)  (hI : Inv w0 Z w A) (A_a0 : Option Addr) (c_a0 : Nat) (a0 : (List PoolUse)) (hr_a0 : RdS Z c_PoolUse 5 A_a0 c_a0 a0) (r : Int) (h0 : pool_Even a0 = some r) :
    Calls prog 36 #[.slice A_a0 a0.length c_a0] w (fun e w' => e = .returned (.int .i64 r) ∧ Inv w0 Z w' A) := by
  refine calls_intro (args := [.slice A_a0 a0.length c_a0]) (fn := Go.Proofs.Try.f36) 16 Go.Proofs.Try.func36 (by rfl) Go.Proofs.Try.ntmps36 (by kernel_rfl) ?_
  unfold pool_Even at h0
  refine CodT.seq ?_
  refine CodT.regionL [0, 1] (by kernel_rfl) ?_
  refine OpsT.cons (Does.boxL (d := 1) (T := 35) (v := .slice A_a0 a0.length c_a0) ([.slice A_a0 a0.length c_a0]) (by kernel_rfl) hI (by kernel_rfl) ?_)
  intro b1 w hI
  refine OpsT.pures (r := []) [1] [1] (S' := [(1, .pointer (some ⟨b1, 0, none⟩))]) (by kernel_rfl) ?_
  refine OpsT.done ?_
  refine Qn.then ?_
  refine CodT.seq ?_
  refine CodT.regionL [0, 1, 2, 3, 4] (by kernel_rfl) ?_
  refine OpsT.cons (Does.yi (Yl.load (d := 4) (T := 35) (v := .slice A_a0 a0.length c_a0) (by kernel_rfl) (ldB ty35 (l := [.slice A_a0 a0.length c_a0]) (o := 0) (v := .slice A_a0 a0.length c_a0) (ent_refl _) (by kernel_rfl))) hI ?_)
  obtain ⟨y3, hc2, h0⟩ := bindS h0
  try dsimp only at h0
  refine OpsT.cons (Does.call (d := some 5) (n := 45) (vs := [.slice A_a0 a0.length c_a0, .func (.func 51) #[] #[], .func (.func 47) #[] #[]]) (by kernel_rfl) en45 (c45_3 w0 w _ _ hI A_a0 c_a0 a0 hr_a0 _ hc2) ?_)
  rintro e w ⟨A4, cp5, rfl, hI⟩
  refine ⟨_, rfl, ?_⟩
  obtain ⟨Z6, hle7, hr8, hI⟩ := ownS_freeze hI
  obtain ⟨y10, hc9, h0⟩ := bindS h0
  try dsimp only at h0
  refine OpsT.cons (Does.call (d := some 6) (n := 49) (vs := [.slice A4 y3.length cp5]) (by kernel_rfl) en49 (c49 w0 w _ _ hI A4 cp5 y3 hr8 _ hc9) ?_)
  rintro e w ⟨rfl, hI⟩
  refine ⟨_, rfl, ?_⟩
  refine OpsT.cons (Does.allocL (d := 3) (T := 3) ([.int .i64 0]) (by kernel_rfl) ty3 hI (by kernel_rfl) ?_)
  intro b11 w hI
  refine OpsT.cons (Does.storeLit (T := 3) (b := b11) (o := 0) (v := .int .i64 y10) (l := [.int .i64 0]) (vs := [.int .i64 y10]) (L' := [.int .i64 y10]) (by kernel_rfl) ty3 hI (by kernel_rfl) (by kernel_rfl) (by kernel_rfl) (by kernel_rfl) (by kernel_rfl) ?_)
  intro w hI
  refine OpsT.done ?_
  refine Qn.then ?_
  have hI := hI.mono (pick2 _ _ _)
  obtain ⟨Z12, hle13, hz14, hI⟩ := pt_freeze hI
  obtain ⟨Z15, hle16, hz17, hI⟩ := pt_freeze hI
  refine CodT.seq ?_
  obtain ⟨r1, h1, h0⟩ := bindS h0
  refine CodT.meet (fun a w => ∃ (x18 : Bool), x18 = r1 ∧ Fr 16 [(3, .pointer (some ⟨b11, 0, none⟩)), (14, .bool x18)] a ∧ Inv w0 Z15 w A) ?_ ?_
  ·
    refine CodT.regionL [0, 1, 2, 3, 4, 5, 6, 7] (by kernel_rfl) ?_
    refine OpsT.cons (Does.yi (Yl.load (d := 7) (T := 3) (v := .int .i64 y10) (by kernel_rfl) (ldZ ty3 (l := [.int .i64 y10]) (o := 0) (v := .int .i64 y10) hz17 (by kernel_rfl))) hI ?_)
    refine OpsT.pures (r := [3, 4, 5, 6, 7]) [1, 2] [1, 3, 9] (S' := [(1, .pointer (some ⟨b1, 0, none⟩)), (3, .pointer (some ⟨b11, 0, none⟩)), (9, .bool (decide (y10 < 0)))]) (by kernel_rfl) ?_
    by_cases hb19 : (decide (y10 < 0)) = true
    · rw [if_pos hb19] at h1
      refine OpsT.keep [1, 3, 9] (S' := [(1, .pointer (some ⟨b1, 0, none⟩)), (3, .pointer (some ⟨b11, 0, none⟩)), (9, .bool true)]) (by simp only [hb19]; kernel_rfl) ?_
      refine OpsT.pures (r := []) [3, 4, 5, 6, 7] [3, 14] (S' := [(3, .pointer (some ⟨b11, 0, none⟩)), (14, .bool true)]) (by kernel_rfl) ?_
      refine OpsT.done ?_
      have e := someS h1
      subst e
      exact Qn.thenJ fun a ha => ⟨true, rfl, ha.keep [3, 14] (by kernel_rfl), hI⟩
    · rw [if_neg hb19] at h1
      have hb19 : (decide (y10 < 0)) = false := by simpa using hb19
      refine OpsT.keep [1, 3, 9] (S' := [(1, .pointer (some ⟨b1, 0, none⟩)), (3, .pointer (some ⟨b11, 0, none⟩)), (9, .bool false)]) (by simp only [hb19]; kernel_rfl) ?_
      refine OpsT.cons (Does.yi (Yl.load (d := 10) (T := 35) (v := .slice A_a0 a0.length c_a0) (by kernel_rfl) (ldZ ty35 (l := [.slice A_a0 a0.length c_a0]) (o := 0) (v := .slice A_a0 a0.length c_a0) (hle16 _ _ hz14) (by kernel_rfl))) hI ?_)
      refine OpsT.pures (r := [5, 6, 7]) [4] [3, 9, 10, 11] (S' := [(3, .pointer (some ⟨b11, 0, none⟩)), (9, .bool false), (10, .slice A_a0 a0.length c_a0), (11, .func (.func 56) #[] #[.pointer (some ⟨b1, 0, none⟩), .pointer (some ⟨b11, 0, none⟩)])]) (by kernel_rfl) ?_
      obtain ⟨y21, hc20, h1⟩ := bindS h1
      try dsimp only at h1
      refine OpsT.cons (Does.call (d := some 12) (n := 55) (vs := [.slice A_a0 a0.length c_a0, .func (.func 56) #[] #[.pointer (some ⟨b1, 0, none⟩), .pointer (some ⟨b11, 0, none⟩)]]) (by kernel_rfl) en55 (c55 w0 w _ _ hI A_a0 c_a0 a0 (hr_a0.mono (Hp.le_trans (Hp.le_trans hle7 hle13) hle16)) b1 A_a0 c_a0 a0 (hr_a0.mono (Hp.le_trans (Hp.le_trans hle7 hle13) hle16)) (hle16 _ _ hz14) b11 y10 hz17 _ hc20) ?_)
      rintro e w ⟨rfl, hI⟩
      refine ⟨_, rfl, ?_⟩
      refine OpsT.pures (r := []) [6, 7] [3, 14] (S' := [(3, .pointer (some ⟨b11, 0, none⟩)), (14, .bool (!y21))]) (by kernel_rfl) ?_
      refine OpsT.done ?_
      have e := someS h1
      subst e
      exact Qn.thenJ fun a ha => ⟨!y21, rfl, ha.keep [3, 14] (by kernel_rfl), hI⟩
  ·
    rintro a w ⟨x18, rfl, ha, hI⟩
    try dsimp only at h0
    refine CodT.of ?_ ha
    by_cases hb22 : x18 = true
    · rw [if_pos hb22] at h0
      refine CodT.yes' (b := x18) (by kernel_rfl) hb22 ?_
      refine CodT.seq ?_
      refine CodT.regionL [0] (by kernel_rfl) ?_
      refine OpsT.pures (r := []) [0] [2] (S' := [(2, .int .i64 (-1))]) (by kernel_rfl) ?_
      refine OpsT.done ?_
      refine Qn.then ?_
      refine CodT.ret ?_
      refine Qn.ret_then ?_
      have e := someS h0
      subst e
      refine Qn.keep [2] (S' := [(2, .int .i64 (-1))]) (by kernel_rfl) ?_
      exact post_ret (v := .int .i64 (-1)) (fun a ha => RunRes.run (vs := [.int .i64 (-1)]) (.tmp (t := 2) (by kernel_rfl) .nil) ha (by kernel_rfl)) ⟨rfl, hI.weaken (Hp.le_trans (Hp.le_trans hle7 hle13) hle16)⟩
    · rw [if_neg hb22] at h0
      refine CodT.no' (b := x18) (by kernel_rfl) (by simpa using hb22) ?_
      refine CodT.skip ?_
      refine Qn.then ?_
      refine CodT.seq ?_
      refine CodT.regionL [0, 1] (by kernel_rfl) ?_
      refine OpsT.cons (Does.yi (Yl.load (d := 15) (T := 3) (v := .int .i64 y10) (by kernel_rfl) (ldZ ty3 (l := [.int .i64 y10]) (o := 0) (v := .int .i64 y10) hz17 (by kernel_rfl))) hI ?_)
      refine OpsT.pures (r := []) [1] [2] (S' := [(2, .int .i64 y10)]) (by kernel_rfl) ?_
      refine OpsT.done ?_
      refine Qn.then ?_
      refine CodT.ret ?_
      have e := someS h0
      subst e
      refine Qn.keep [2] (S' := [(2, .int .i64 y10)]) (by kernel_rfl) ?_
      exact post_ret (v := .int .i64 y10) (fun a ha => RunRes.run (vs := [.int .i64 y10]) (.tmp (t := 2) (by kernel_rfl) .nil) ha (by kernel_rfl)) ⟨rfl, hI.weaken (Hp.le_trans (Hp.le_trans hle7 hle13) hle16)⟩
end Go.Cen
