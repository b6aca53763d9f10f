/- That the machine computes these: walks, printed by a program of ours. -/
import Derived.Test.YthdoklobbcedcaaPq
import Derived.Test.YthdoklobbcedcaaWq1
set_option linter.unusedVariables false
set_option linter.unusedSimpArgs false
namespace Go.Cen
set_option maxRecDepth 100000 in
set_option maxHeartbeats 4000000 in
/-- cenotaph/cenotaphlaw17.works -/
theorem c24 (w0 w : World) (Z : Hp) (A : HP)  (hI : Inv w0 Z w A)  (r : Bool) (h0 : law17_works = some r) :
    Calls prog 24 #[] w (fun e w' => e = .returned (.bool r) ∧ Inv w0 Z w' A) := by
  refine calls_intro (args := []) (fn := Go.Proofs.Try.f24) 57 Go.Proofs.Try.func24 (by rfl) Go.Proofs.Try.ntmps24 (by kernel_rfl) ?_
  unfold law17_works at h0
  refine CodT.seq ?_
  refine CodT.regionL [0] (by kernel_rfl) ?_
  refine OpsT.pures (r := []) [0] [] (S' := []) (by kernel_rfl) ?_
  refine OpsT.done ?_
  refine Qn.then ?_
  refine CodT.seq ?_
  refine CodT.regionL [0, 1, 2, 3, 4, 5, 6, 7] (by kernel_rfl) ?_
  refine OpsT.pures (r := [6, 7]) [0, 1, 2, 3, 4, 5] [3, 4, 5, 6, 7, 8] (S' := [(3, .agg (c_PoolUse (PoolUse.mk 0 0 3 false false)).toArray), (4, .agg (c_PoolUse (PoolUse.mk 0 0 1 false false)).toArray), (5, .agg (c_PoolUse (PoolUse.mk 0 2 1 false false)).toArray), (6, .agg (c_PoolUse (PoolUse.mk 0 1 0 false true)).toArray), (7, .agg (c_PoolUse (PoolUse.mk 0 0 0 true false)).toArray), (8, .agg (c_PoolUse (PoolUse.mk 0 2 0 false false)).toArray)]) (by kernel_rfl) ?_
  refine OpsT.cons (Does.buildSlice (en := c_PoolUse) (d := 9) (n := 6) (T := 35) (ps := [(0, .agg (c_PoolUse (PoolUse.mk 0 0 3 false false)).toArray), (1, .agg (c_PoolUse (PoolUse.mk 0 0 1 false false)).toArray), (2, .agg (c_PoolUse (PoolUse.mk 0 2 1 false false)).toArray), (3, .agg (c_PoolUse (PoolUse.mk 0 1 0 false true)).toArray), (4, .agg (c_PoolUse (PoolUse.mk 0 0 0 true false)).toArray), (5, .agg (c_PoolUse (PoolUse.mk 0 2 0 false false)).toArray)]) ([(PoolUse.mk 0 0 3 false false), (PoolUse.mk 0 0 1 false false), (PoolUse.mk 0 2 1 false false), (PoolUse.mk 0 1 0 false true), (PoolUse.mk 0 0 0 true false), (PoolUse.mk 0 2 0 false false)] : List PoolUse) (by kernel_rfl) Go.Proofs.Try.underlying35 ty49 (by kernel_rfl) (by kernel_rfl) (by kernel_rfl) (by kernel_rfl) (len_all (fun _ => rfl)) hI ?_)
  intro b1 w hI
  refine OpsT.pures (r := []) [7] [1] (S' := [(1, .slice (some ⟨b1, 0, none⟩) (([(PoolUse.mk 0 0 3 false false), (PoolUse.mk 0 0 1 false false), (PoolUse.mk 0 2 1 false false), (PoolUse.mk 0 1 0 false true), (PoolUse.mk 0 0 0 true false), (PoolUse.mk 0 2 0 false false)] : List PoolUse).length) 6)]) (by kernel_rfl) ?_
  refine OpsT.done ?_
  refine Qn.then ?_
  refine CodT.seq ?_
  refine CodT.regionL [0, 1, 2] (by kernel_rfl) ?_
  refine OpsT.pures (r := [1, 2]) [0] [1, 10] (S' := [(1, .slice (some ⟨b1, 0, none⟩) (([(PoolUse.mk 0 0 3 false false), (PoolUse.mk 0 0 1 false false), (PoolUse.mk 0 2 1 false false), (PoolUse.mk 0 1 0 false true), (PoolUse.mk 0 0 0 true false), (PoolUse.mk 0 2 0 false false)] : List PoolUse).length) 6), (10, .slice (some ⟨b1, 0, none⟩) (([(PoolUse.mk 0 0 3 false false), (PoolUse.mk 0 0 1 false false), (PoolUse.mk 0 2 1 false false), (PoolUse.mk 0 1 0 false true), (PoolUse.mk 0 0 0 true false), (PoolUse.mk 0 2 0 false false)] : List PoolUse).length) 6)]) (by kernel_rfl) ?_
  obtain ⟨Z2, hle3, hr4, hI⟩ := ownS_freeze hI
  obtain ⟨y6, hc5, h0⟩ := bindS h0
  try dsimp only at h0
  refine OpsT.cons (Does.call (d := some 11) (n := 28) (vs := [.slice (some ⟨b1, 0, none⟩) (([(PoolUse.mk 0 0 3 false false), (PoolUse.mk 0 0 1 false false), (PoolUse.mk 0 2 1 false false), (PoolUse.mk 0 1 0 false true), (PoolUse.mk 0 0 0 true false), (PoolUse.mk 0 2 0 false false)] : List PoolUse).length) 6]) (by kernel_rfl) en28 (c28 w0 w _ _ hI (some ⟨b1, 0, none⟩) 6 ([(PoolUse.mk 0 0 3 false false), (PoolUse.mk 0 0 1 false false), (PoolUse.mk 0 2 1 false false), (PoolUse.mk 0 1 0 false true), (PoolUse.mk 0 0 0 true false), (PoolUse.mk 0 2 0 false false)] : List PoolUse) hr4 _ hc5) ?_)
  rintro e w ⟨A7, cp8, rfl, hI⟩
  refine ⟨_, rfl, ?_⟩
  refine OpsT.pures (r := []) [2] [1, 2] (S' := [(1, .slice (some ⟨b1, 0, none⟩) (([(PoolUse.mk 0 0 3 false false), (PoolUse.mk 0 0 1 false false), (PoolUse.mk 0 2 1 false false), (PoolUse.mk 0 1 0 false true), (PoolUse.mk 0 0 0 true false), (PoolUse.mk 0 2 0 false false)] : List PoolUse).length) 6), (2, .slice A7 y6.length cp8)]) (by kernel_rfl) ?_
  refine OpsT.done ?_
  refine Qn.then ?_
  obtain ⟨r1, h1, h0⟩ := bindS h0
  refine CodT.meet (fun a w => ∃ (x11 : Bool) (Z9 : Hp), x11 = r1 ∧ Fr 57 [(0, .bool x11)] a ∧ Inv w0 Z9 w A ∧ Z2.le Z9) ?_ ?_
  ·
    refine CodT.regionL [0, 1, 2, 3, 4, 5, 6, 7, 8, 9, 10, 11, 12, 13, 14, 15, 16, 17, 18, 19, 20, 21, 22, 23, 24, 25, 26, 27, 28, 29, 30, 31, 32, 33, 34, 35, 36, 37, 38, 39, 40, 41, 42, 43, 44, 45] (by kernel_rfl) ?_
    refine OpsT.pures (r := [1, 2, 3, 4, 5, 6, 7, 8, 9, 10, 11, 12, 13, 14, 15, 16, 17, 18, 19, 20, 21, 22, 23, 24, 25, 26, 27, 28, 29, 30, 31, 32, 33, 34, 35, 36, 37, 38, 39, 40, 41, 42, 43, 44, 45]) [0] [1, 2, 12] (S' := [(1, .slice (some ⟨b1, 0, none⟩) (([(PoolUse.mk 0 0 3 false false), (PoolUse.mk 0 0 1 false false), (PoolUse.mk 0 2 1 false false), (PoolUse.mk 0 1 0 false true), (PoolUse.mk 0 0 0 true false), (PoolUse.mk 0 2 0 false false)] : List PoolUse).length) 6), (2, .slice A7 y6.length cp8), (12, .slice (some ⟨b1, 0, none⟩) (([(PoolUse.mk 0 0 3 false false), (PoolUse.mk 0 0 1 false false), (PoolUse.mk 0 2 1 false false), (PoolUse.mk 0 1 0 false true), (PoolUse.mk 0 0 0 true false), (PoolUse.mk 0 2 0 false false)] : List PoolUse).length) 6)]) (by kernel_rfl) ?_
    obtain ⟨y13, hc12, h1⟩ := bindS h1
    try dsimp only at h1
    refine OpsT.cons (Does.call (d := some 13) (n := 30) (vs := [.slice (some ⟨b1, 0, none⟩) (([(PoolUse.mk 0 0 3 false false), (PoolUse.mk 0 0 1 false false), (PoolUse.mk 0 2 1 false false), (PoolUse.mk 0 1 0 false true), (PoolUse.mk 0 0 0 true false), (PoolUse.mk 0 2 0 false false)] : List PoolUse).length) 6]) (by kernel_rfl) en30 (c30 w0 w _ _ hI (some ⟨b1, 0, none⟩) 6 ([(PoolUse.mk 0 0 3 false false), (PoolUse.mk 0 0 1 false false), (PoolUse.mk 0 2 1 false false), (PoolUse.mk 0 1 0 false true), (PoolUse.mk 0 0 0 true false), (PoolUse.mk 0 2 0 false false)] : List PoolUse) hr4 _ hc12) ?_)
    rintro e w ⟨rfl, hI⟩
    refine ⟨_, rfl, ?_⟩
    refine OpsT.pures (r := [4, 5, 6, 7, 8, 9, 10, 11, 12, 13, 14, 15, 16, 17, 18, 19, 20, 21, 22, 23, 24, 25, 26, 27, 28, 29, 30, 31, 32, 33, 34, 35, 36, 37, 38, 39, 40, 41, 42, 43, 44, 45]) [2, 3] [1, 2, 15] (S' := [(1, .slice (some ⟨b1, 0, none⟩) (([(PoolUse.mk 0 0 3 false false), (PoolUse.mk 0 0 1 false false), (PoolUse.mk 0 2 1 false false), (PoolUse.mk 0 1 0 false true), (PoolUse.mk 0 0 0 true false), (PoolUse.mk 0 2 0 false false)] : List PoolUse).length) 6), (2, .slice A7 y6.length cp8), (15, .bool (y13 == 1))]) (by kernel_rfl) ?_
    by_cases hb14 : (y13 == 1) = true
    · rw [if_pos hb14] at h1
      refine OpsT.keep [1, 2, 15] (S' := [(1, .slice (some ⟨b1, 0, none⟩) (([(PoolUse.mk 0 0 3 false false), (PoolUse.mk 0 0 1 false false), (PoolUse.mk 0 2 1 false false), (PoolUse.mk 0 1 0 false true), (PoolUse.mk 0 0 0 true false), (PoolUse.mk 0 2 0 false false)] : List PoolUse).length) 6), (2, .slice A7 y6.length cp8), (15, .bool true)]) (by simp only [hb14]; kernel_rfl) ?_
      refine OpsT.pures (r := [9, 10, 11, 12, 13, 14, 15, 16, 17, 18, 19, 20, 21, 22, 23, 24, 25, 26, 27, 28, 29, 30, 31, 32, 33, 34, 35, 36, 37, 38, 39, 40, 41, 42, 43, 44, 45]) [4, 5, 6, 7, 8] [1, 2, 20] (S' := [(1, .slice (some ⟨b1, 0, none⟩) (([(PoolUse.mk 0 0 3 false false), (PoolUse.mk 0 0 1 false false), (PoolUse.mk 0 2 1 false false), (PoolUse.mk 0 1 0 false true), (PoolUse.mk 0 0 0 true false), (PoolUse.mk 0 2 0 false false)] : List PoolUse).length) 6), (2, .slice A7 y6.length cp8), (20, .bool ((y6.length : Int) == 2))]) (by kernel_rfl) ?_
      by_cases hb15 : ((y6.length : Int) == 2) = true
      · rw [if_pos hb15] at h1
        refine OpsT.keep [1, 2, 20] (S' := [(1, .slice (some ⟨b1, 0, none⟩) (([(PoolUse.mk 0 0 3 false false), (PoolUse.mk 0 0 1 false false), (PoolUse.mk 0 2 1 false false), (PoolUse.mk 0 1 0 false true), (PoolUse.mk 0 0 0 true false), (PoolUse.mk 0 2 0 false false)] : List PoolUse).length) 6), (2, .slice A7 y6.length cp8), (20, .bool true)]) (by simp only [hb15]; kernel_rfl) ?_
        refine OpsT.pures (r := [10, 11, 12, 13, 14, 15, 16, 17, 18, 19, 20, 21, 22, 23, 24, 25, 26, 27, 28, 29, 30, 31, 32, 33, 34, 35, 36, 37, 38, 39, 40, 41, 42, 43, 44, 45]) [9] [1, 20, 21] (S' := [(1, .slice (some ⟨b1, 0, none⟩) (([(PoolUse.mk 0 0 3 false false), (PoolUse.mk 0 0 1 false false), (PoolUse.mk 0 2 1 false false), (PoolUse.mk 0 1 0 false true), (PoolUse.mk 0 0 0 true false), (PoolUse.mk 0 2 0 false false)] : List PoolUse).length) 6), (20, .bool true), (21, .slice A7 y6.length cp8)]) (by kernel_rfl) ?_
        obtain ⟨hg16, h1⟩ := guardS h1
        obtain ⟨g17, hA18, hr19, hl20⟩ := ownS_get hI hg16.1 hg16.2
        refine OpsT.cons (Does.yi (Yl.indexSlice (d := 22) (T := 40) (cc := cp8) (k := .i64) (j := 1) (g := g17) (o := 0) (by kernel_rfl) Go.Proofs.Try.underlying40 ty3 hA18 hg16.1 hg16.2) hI ?_)
        refine OpsT.cons (Does.yi (Yl.load (d := 23) (T := 3) (v := .int .i64 (gt y6 1)) (by kernel_rfl) (ldR ty3 (v := .int .i64 (gt y6 1)) 0 (fun w hC => hr19 w0 w _ hC) (by kernel_rfl))) hI ?_)
        refine OpsT.pures (r := [15, 16, 17, 18, 19, 20, 21, 22, 23, 24, 25, 26, 27, 28, 29, 30, 31, 32, 33, 34, 35, 36, 37, 38, 39, 40, 41, 42, 43, 44, 45]) [12, 13, 14] [1, 26] (S' := [(1, .slice (some ⟨b1, 0, none⟩) (([(PoolUse.mk 0 0 3 false false), (PoolUse.mk 0 0 1 false false), (PoolUse.mk 0 2 1 false false), (PoolUse.mk 0 1 0 false true), (PoolUse.mk 0 0 0 true false), (PoolUse.mk 0 2 0 false false)] : List PoolUse).length) 6), (26, .bool ((gt y6 1) == 0))]) (by kernel_rfl) ?_
        by_cases hb21 : ((gt y6 1) == 0) = true
        · rw [if_pos hb21] at h1
          refine OpsT.keep [1, 26] (S' := [(1, .slice (some ⟨b1, 0, none⟩) (([(PoolUse.mk 0 0 3 false false), (PoolUse.mk 0 0 1 false false), (PoolUse.mk 0 2 1 false false), (PoolUse.mk 0 1 0 false true), (PoolUse.mk 0 0 0 true false), (PoolUse.mk 0 2 0 false false)] : List PoolUse).length) 6), (26, .bool true)]) (by simp only [hb21]; kernel_rfl) ?_
          refine OpsT.pures (r := [16, 17, 18, 19, 20, 21, 22, 23, 24, 25, 26, 27, 28, 29, 30, 31, 32, 33, 34, 35, 36, 37, 38, 39, 40, 41, 42, 43, 44, 45]) [15] [1, 26, 27] (S' := [(1, .slice (some ⟨b1, 0, none⟩) (([(PoolUse.mk 0 0 3 false false), (PoolUse.mk 0 0 1 false false), (PoolUse.mk 0 2 1 false false), (PoolUse.mk 0 1 0 false true), (PoolUse.mk 0 0 0 true false), (PoolUse.mk 0 2 0 false false)] : List PoolUse).length) 6), (26, .bool true), (27, .slice (some ⟨b1, 0, none⟩) (([(PoolUse.mk 0 0 3 false false), (PoolUse.mk 0 0 1 false false), (PoolUse.mk 0 2 1 false false), (PoolUse.mk 0 1 0 false true), (PoolUse.mk 0 0 0 true false), (PoolUse.mk 0 2 0 false false)] : List PoolUse).length) 6)]) (by kernel_rfl) ?_
          obtain ⟨y23, hc22, h1⟩ := bindS h1
          try dsimp only at h1
          refine OpsT.cons (Does.call (d := some 28) (n := 32) (vs := [.slice (some ⟨b1, 0, none⟩) (([(PoolUse.mk 0 0 3 false false), (PoolUse.mk 0 0 1 false false), (PoolUse.mk 0 2 1 false false), (PoolUse.mk 0 1 0 false true), (PoolUse.mk 0 0 0 true false), (PoolUse.mk 0 2 0 false false)] : List PoolUse).length) 6, .int .i64 4]) (by kernel_rfl) en32 (c32 w0 w _ _ hI (some ⟨b1, 0, none⟩) 6 ([(PoolUse.mk 0 0 3 false false), (PoolUse.mk 0 0 1 false false), (PoolUse.mk 0 2 1 false false), (PoolUse.mk 0 1 0 false true), (PoolUse.mk 0 0 0 true false), (PoolUse.mk 0 2 0 false false)] : List PoolUse) hr4 4 _ hc22) ?_)
          rintro e w ⟨rfl, hI⟩
          refine ⟨_, rfl, ?_⟩
          refine OpsT.pures (r := [20, 21, 22, 23, 24, 25, 26, 27, 28, 29, 30, 31, 32, 33, 34, 35, 36, 37, 38, 39, 40, 41, 42, 43, 44, 45]) [17, 18, 19] [1, 31] (S' := [(1, .slice (some ⟨b1, 0, none⟩) (([(PoolUse.mk 0 0 3 false false), (PoolUse.mk 0 0 1 false false), (PoolUse.mk 0 2 1 false false), (PoolUse.mk 0 1 0 false true), (PoolUse.mk 0 0 0 true false), (PoolUse.mk 0 2 0 false false)] : List PoolUse).length) 6), (31, .bool (y23 == 5))]) (by kernel_rfl) ?_
          by_cases hb24 : (y23 == 5) = true
          · rw [if_pos hb24] at h1
            refine OpsT.keep [1, 31] (S' := [(1, .slice (some ⟨b1, 0, none⟩) (([(PoolUse.mk 0 0 3 false false), (PoolUse.mk 0 0 1 false false), (PoolUse.mk 0 2 1 false false), (PoolUse.mk 0 1 0 false true), (PoolUse.mk 0 0 0 true false), (PoolUse.mk 0 2 0 false false)] : List PoolUse).length) 6), (31, .bool true)]) (by simp only [hb24]; kernel_rfl) ?_
            refine OpsT.pures (r := [21, 22, 23, 24, 25, 26, 27, 28, 29, 30, 31, 32, 33, 34, 35, 36, 37, 38, 39, 40, 41, 42, 43, 44, 45]) [20] [1, 31, 32] (S' := [(1, .slice (some ⟨b1, 0, none⟩) (([(PoolUse.mk 0 0 3 false false), (PoolUse.mk 0 0 1 false false), (PoolUse.mk 0 2 1 false false), (PoolUse.mk 0 1 0 false true), (PoolUse.mk 0 0 0 true false), (PoolUse.mk 0 2 0 false false)] : List PoolUse).length) 6), (31, .bool true), (32, .slice (some ⟨b1, 0, none⟩) (([(PoolUse.mk 0 0 3 false false), (PoolUse.mk 0 0 1 false false), (PoolUse.mk 0 2 1 false false), (PoolUse.mk 0 1 0 false true), (PoolUse.mk 0 0 0 true false), (PoolUse.mk 0 2 0 false false)] : List PoolUse).length) 6)]) (by kernel_rfl) ?_
            obtain ⟨y26, hc25, h1⟩ := bindS h1
            try dsimp only at h1
            refine OpsT.cons (Does.call (d := some 33) (n := 32) (vs := [.slice (some ⟨b1, 0, none⟩) (([(PoolUse.mk 0 0 3 false false), (PoolUse.mk 0 0 1 false false), (PoolUse.mk 0 2 1 false false), (PoolUse.mk 0 1 0 false true), (PoolUse.mk 0 0 0 true false), (PoolUse.mk 0 2 0 false false)] : List PoolUse).length) 6, .int .i64 2]) (by kernel_rfl) en32 (c32 w0 w _ _ hI (some ⟨b1, 0, none⟩) 6 ([(PoolUse.mk 0 0 3 false false), (PoolUse.mk 0 0 1 false false), (PoolUse.mk 0 2 1 false false), (PoolUse.mk 0 1 0 false true), (PoolUse.mk 0 0 0 true false), (PoolUse.mk 0 2 0 false false)] : List PoolUse) hr4 2 _ hc25) ?_)
            rintro e w ⟨rfl, hI⟩
            refine ⟨_, rfl, ?_⟩
            refine OpsT.pures (r := [25, 26, 27, 28, 29, 30, 31, 32, 33, 34, 35, 36, 37, 38, 39, 40, 41, 42, 43, 44, 45]) [22, 23, 24] [1, 36] (S' := [(1, .slice (some ⟨b1, 0, none⟩) (([(PoolUse.mk 0 0 3 false false), (PoolUse.mk 0 0 1 false false), (PoolUse.mk 0 2 1 false false), (PoolUse.mk 0 1 0 false true), (PoolUse.mk 0 0 0 true false), (PoolUse.mk 0 2 0 false false)] : List PoolUse).length) 6), (36, .bool (y26 == (-1)))]) (by kernel_rfl) ?_
            by_cases hb27 : (y26 == (-1)) = true
            · rw [if_pos hb27] at h1
              refine OpsT.keep [1, 36] (S' := [(1, .slice (some ⟨b1, 0, none⟩) (([(PoolUse.mk 0 0 3 false false), (PoolUse.mk 0 0 1 false false), (PoolUse.mk 0 2 1 false false), (PoolUse.mk 0 1 0 false true), (PoolUse.mk 0 0 0 true false), (PoolUse.mk 0 2 0 false false)] : List PoolUse).length) 6), (36, .bool true)]) (by simp only [hb27]; kernel_rfl) ?_
              refine OpsT.pures (r := [26, 27, 28, 29, 30, 31, 32, 33, 34, 35, 36, 37, 38, 39, 40, 41, 42, 43, 44, 45]) [25] [1, 36, 37] (S' := [(1, .slice (some ⟨b1, 0, none⟩) (([(PoolUse.mk 0 0 3 false false), (PoolUse.mk 0 0 1 false false), (PoolUse.mk 0 2 1 false false), (PoolUse.mk 0 1 0 false true), (PoolUse.mk 0 0 0 true false), (PoolUse.mk 0 2 0 false false)] : List PoolUse).length) 6), (36, .bool true), (37, .slice (some ⟨b1, 0, none⟩) (([(PoolUse.mk 0 0 3 false false), (PoolUse.mk 0 0 1 false false), (PoolUse.mk 0 2 1 false false), (PoolUse.mk 0 1 0 false true), (PoolUse.mk 0 0 0 true false), (PoolUse.mk 0 2 0 false false)] : List PoolUse).length) 6)]) (by kernel_rfl) ?_
              obtain ⟨y29, hc28, h1⟩ := bindS h1
              try dsimp only at h1
              refine OpsT.cons (Does.call (d := some 38) (n := 34) (vs := [.slice (some ⟨b1, 0, none⟩) (([(PoolUse.mk 0 0 3 false false), (PoolUse.mk 0 0 1 false false), (PoolUse.mk 0 2 1 false false), (PoolUse.mk 0 1 0 false true), (PoolUse.mk 0 0 0 true false), (PoolUse.mk 0 2 0 false false)] : List PoolUse).length) 6, .int .i64 4]) (by kernel_rfl) en34 (c34 w0 w _ _ hI (some ⟨b1, 0, none⟩) 6 ([(PoolUse.mk 0 0 3 false false), (PoolUse.mk 0 0 1 false false), (PoolUse.mk 0 2 1 false false), (PoolUse.mk 0 1 0 false true), (PoolUse.mk 0 0 0 true false), (PoolUse.mk 0 2 0 false false)] : List PoolUse) hr4 4 _ hc28) ?_)
              rintro e w ⟨rfl, hI⟩
              refine ⟨_, rfl, ?_⟩
              refine OpsT.pures (r := [30, 31, 32, 33, 34, 35, 36, 37, 38, 39, 40, 41, 42, 43, 44, 45]) [27, 28, 29] [1, 41] (S' := [(1, .slice (some ⟨b1, 0, none⟩) (([(PoolUse.mk 0 0 3 false false), (PoolUse.mk 0 0 1 false false), (PoolUse.mk 0 2 1 false false), (PoolUse.mk 0 1 0 false true), (PoolUse.mk 0 0 0 true false), (PoolUse.mk 0 2 0 false false)] : List PoolUse).length) 6), (41, .bool (y29 == 8))]) (by kernel_rfl) ?_
              by_cases hb30 : (y29 == 8) = true
              · rw [if_pos hb30] at h1
                refine OpsT.keep [1, 41] (S' := [(1, .slice (some ⟨b1, 0, none⟩) (([(PoolUse.mk 0 0 3 false false), (PoolUse.mk 0 0 1 false false), (PoolUse.mk 0 2 1 false false), (PoolUse.mk 0 1 0 false true), (PoolUse.mk 0 0 0 true false), (PoolUse.mk 0 2 0 false false)] : List PoolUse).length) 6), (41, .bool true)]) (by simp only [hb30]; kernel_rfl) ?_
                obtain ⟨y32, hc31, h1⟩ := bindS h1
                try dsimp only at h1
                refine OpsT.cons (Does.call (d := some 42) (n := 30) (vs := [.slice none 0 0]) (by kernel_rfl) en30 (c30 w0 w _ _ hI none 0 ([] : List PoolUse) (RdS.nil _ _ _ _ _ (Nat.zero_le _)) _ hc31) ?_)
                rintro e w ⟨rfl, hI⟩
                refine ⟨_, rfl, ?_⟩
                refine OpsT.pures (r := [34, 35, 36, 37, 38, 39, 40, 41, 42, 43, 44, 45]) [31, 32, 33] [1, 45] (S' := [(1, .slice (some ⟨b1, 0, none⟩) (([(PoolUse.mk 0 0 3 false false), (PoolUse.mk 0 0 1 false false), (PoolUse.mk 0 2 1 false false), (PoolUse.mk 0 1 0 false true), (PoolUse.mk 0 0 0 true false), (PoolUse.mk 0 2 0 false false)] : List PoolUse).length) 6), (45, .bool (y32 == (-1)))]) (by kernel_rfl) ?_
                by_cases hb33 : (y32 == (-1)) = true
                · rw [if_pos hb33] at h1
                  refine OpsT.keep [1, 45] (S' := [(1, .slice (some ⟨b1, 0, none⟩) (([(PoolUse.mk 0 0 3 false false), (PoolUse.mk 0 0 1 false false), (PoolUse.mk 0 2 1 false false), (PoolUse.mk 0 1 0 false true), (PoolUse.mk 0 0 0 true false), (PoolUse.mk 0 2 0 false false)] : List PoolUse).length) 6), (45, .bool true)]) (by simp only [hb33]; kernel_rfl) ?_
                  refine OpsT.pures (r := [35, 36, 37, 38, 39, 40, 41, 42, 43, 44, 45]) [34] [45, 46] (S' := [(45, .bool true), (46, .slice (some ⟨b1, 0, none⟩) (([(PoolUse.mk 0 0 3 false false), (PoolUse.mk 0 0 1 false false), (PoolUse.mk 0 2 1 false false), (PoolUse.mk 0 1 0 false true), (PoolUse.mk 0 0 0 true false), (PoolUse.mk 0 2 0 false false)] : List PoolUse).length) 6)]) (by kernel_rfl) ?_
                  obtain ⟨y35, hc34, h1⟩ := bindS h1
                  try dsimp only at h1
                  refine OpsT.cons (Does.call (d := some 47) (n := 36) (vs := [.slice (some ⟨b1, 0, none⟩) (([(PoolUse.mk 0 0 3 false false), (PoolUse.mk 0 0 1 false false), (PoolUse.mk 0 2 1 false false), (PoolUse.mk 0 1 0 false true), (PoolUse.mk 0 0 0 true false), (PoolUse.mk 0 2 0 false false)] : List PoolUse).length) 6]) (by kernel_rfl) en36 (c36 w0 w _ _ hI (some ⟨b1, 0, none⟩) 6 ([(PoolUse.mk 0 0 3 false false), (PoolUse.mk 0 0 1 false false), (PoolUse.mk 0 2 1 false false), (PoolUse.mk 0 1 0 false true), (PoolUse.mk 0 0 0 true false), (PoolUse.mk 0 2 0 false false)] : List PoolUse) hr4 _ hc34) ?_)
                  rintro e w ⟨rfl, hI⟩
                  refine ⟨_, rfl, ?_⟩
                  refine OpsT.pures (r := [39, 40, 41, 42, 43, 44, 45]) [36, 37, 38] [50] (S' := [(50, .bool (y35 == (-1)))]) (by kernel_rfl) ?_
                  by_cases hb36 : (y35 == (-1)) = true
                  · rw [if_pos hb36] at h1
                    refine OpsT.keep [50] (S' := [(50, .bool true)]) (by simp only [hb36]; kernel_rfl) ?_
                    refine OpsT.pures (r := [41, 42, 43, 44, 45]) [39, 40] [50, 51, 52] (S' := [(50, .bool true), (51, .agg (c_PoolUse (PoolUse.mk 0 0 8 false false)).toArray), (52, .agg (c_PoolUse (PoolUse.mk 0 1 0 false false)).toArray)]) (by kernel_rfl) ?_
                    refine OpsT.cons (Does.buildSlice (en := c_PoolUse) (d := 53) (n := 2) (T := 35) (ps := [(0, .agg (c_PoolUse (PoolUse.mk 0 0 8 false false)).toArray), (1, .agg (c_PoolUse (PoolUse.mk 0 1 0 false false)).toArray)]) ([(PoolUse.mk 0 0 8 false false), (PoolUse.mk 0 1 0 false false)] : List PoolUse) (by kernel_rfl) Go.Proofs.Try.underlying35 ty49 (by kernel_rfl) (by kernel_rfl) (by kernel_rfl) (by kernel_rfl) (len_all (fun _ => rfl)) hI ?_)
                    intro b37 w hI
                    obtain ⟨Z38, hle39, hr40, hI⟩ := ownS_freeze hI
                    obtain ⟨y42, hc41, h1⟩ := bindS h1
                    try dsimp only at h1
                    refine OpsT.cons (Does.call (d := some 54) (n := 36) (vs := [.slice (some ⟨b37, 0, none⟩) (([(PoolUse.mk 0 0 8 false false), (PoolUse.mk 0 1 0 false false)] : List PoolUse).length) 2]) (by kernel_rfl) en36 (c36 w0 w _ _ hI (some ⟨b37, 0, none⟩) 2 ([(PoolUse.mk 0 0 8 false false), (PoolUse.mk 0 1 0 false false)] : List PoolUse) hr40 _ hc41) ?_)
                    rintro e w ⟨rfl, hI⟩
                    refine ⟨_, rfl, ?_⟩
                    refine OpsT.pures (r := []) [43, 44, 45] [0] (S' := [(0, .bool (y42 == 1))]) (by kernel_rfl) ?_
                    refine OpsT.done ?_
                    have hI := hI.drop
                    have e := someS h1
                    subst e
                    exact Qn.thenJ fun a ha => ⟨y42 == 1, Z38, rfl, ha.keep [0] (by kernel_rfl), hI, hle39⟩
                  · rw [if_neg hb36] at h1
                    have hb36 : (y35 == (-1)) = false := by simpa using hb36
                    refine OpsT.keep [50] (S' := [(50, .bool false)]) (by simp only [hb36]; kernel_rfl) ?_
                    refine OpsT.pures (r := []) [39, 40, 41, 42, 43, 44, 45] [0] (S' := [(0, .bool false)]) (by kernel_rfl) ?_
                    refine OpsT.done ?_
                    have hI := hI.drop
                    have e := someS h1
                    subst e
                    exact Qn.thenJ fun a ha => ⟨false, Z2, rfl, ha.keep [0] (by kernel_rfl), hI, (Hp.le_refl _)⟩
                · rw [if_neg hb33] at h1
                  have hb33 : (y32 == (-1)) = false := by simpa using hb33
                  refine OpsT.keep [1, 45] (S' := [(1, .slice (some ⟨b1, 0, none⟩) (([(PoolUse.mk 0 0 3 false false), (PoolUse.mk 0 0 1 false false), (PoolUse.mk 0 2 1 false false), (PoolUse.mk 0 1 0 false true), (PoolUse.mk 0 0 0 true false), (PoolUse.mk 0 2 0 false false)] : List PoolUse).length) 6), (45, .bool false)]) (by simp only [hb33]; kernel_rfl) ?_
                  refine OpsT.pures (r := []) [34, 35, 36, 37, 38, 39, 40, 41, 42, 43, 44, 45] [0] (S' := [(0, .bool false)]) (by kernel_rfl) ?_
                  refine OpsT.done ?_
                  have hI := hI.drop
                  have e := someS h1
                  subst e
                  exact Qn.thenJ fun a ha => ⟨false, Z2, rfl, ha.keep [0] (by kernel_rfl), hI, (Hp.le_refl _)⟩
              · rw [if_neg hb30] at h1
                have hb30 : (y29 == 8) = false := by simpa using hb30
                refine OpsT.keep [1, 41] (S' := [(1, .slice (some ⟨b1, 0, none⟩) (([(PoolUse.mk 0 0 3 false false), (PoolUse.mk 0 0 1 false false), (PoolUse.mk 0 2 1 false false), (PoolUse.mk 0 1 0 false true), (PoolUse.mk 0 0 0 true false), (PoolUse.mk 0 2 0 false false)] : List PoolUse).length) 6), (41, .bool false)]) (by simp only [hb30]; kernel_rfl) ?_
                refine OpsT.pures (r := []) [30, 31, 32, 33, 34, 35, 36, 37, 38, 39, 40, 41, 42, 43, 44, 45] [0] (S' := [(0, .bool false)]) (by kernel_rfl) ?_
                refine OpsT.done ?_
                have hI := hI.drop
                have e := someS h1
                subst e
                exact Qn.thenJ fun a ha => ⟨false, Z2, rfl, ha.keep [0] (by kernel_rfl), hI, (Hp.le_refl _)⟩
            · rw [if_neg hb27] at h1
              have hb27 : (y26 == (-1)) = false := by simpa using hb27
              refine OpsT.keep [1, 36] (S' := [(1, .slice (some ⟨b1, 0, none⟩) (([(PoolUse.mk 0 0 3 false false), (PoolUse.mk 0 0 1 false false), (PoolUse.mk 0 2 1 false false), (PoolUse.mk 0 1 0 false true), (PoolUse.mk 0 0 0 true false), (PoolUse.mk 0 2 0 false false)] : List PoolUse).length) 6), (36, .bool false)]) (by simp only [hb27]; kernel_rfl) ?_
              refine OpsT.pures (r := []) [25, 26, 27, 28, 29, 30, 31, 32, 33, 34, 35, 36, 37, 38, 39, 40, 41, 42, 43, 44, 45] [0] (S' := [(0, .bool false)]) (by kernel_rfl) ?_
              refine OpsT.done ?_
              have hI := hI.drop
              have e := someS h1
              subst e
              exact Qn.thenJ fun a ha => ⟨false, Z2, rfl, ha.keep [0] (by kernel_rfl), hI, (Hp.le_refl _)⟩
          · rw [if_neg hb24] at h1
            have hb24 : (y23 == 5) = false := by simpa using hb24
            refine OpsT.keep [1, 31] (S' := [(1, .slice (some ⟨b1, 0, none⟩) (([(PoolUse.mk 0 0 3 false false), (PoolUse.mk 0 0 1 false false), (PoolUse.mk 0 2 1 false false), (PoolUse.mk 0 1 0 false true), (PoolUse.mk 0 0 0 true false), (PoolUse.mk 0 2 0 false false)] : List PoolUse).length) 6), (31, .bool false)]) (by simp only [hb24]; kernel_rfl) ?_
            refine OpsT.pures (r := []) [20, 21, 22, 23, 24, 25, 26, 27, 28, 29, 30, 31, 32, 33, 34, 35, 36, 37, 38, 39, 40, 41, 42, 43, 44, 45] [0] (S' := [(0, .bool false)]) (by kernel_rfl) ?_
            refine OpsT.done ?_
            have hI := hI.drop
            have e := someS h1
            subst e
            exact Qn.thenJ fun a ha => ⟨false, Z2, rfl, ha.keep [0] (by kernel_rfl), hI, (Hp.le_refl _)⟩
        · rw [if_neg hb21] at h1
          have hb21 : ((gt y6 1) == 0) = false := by simpa using hb21
          refine OpsT.keep [1, 26] (S' := [(1, .slice (some ⟨b1, 0, none⟩) (([(PoolUse.mk 0 0 3 false false), (PoolUse.mk 0 0 1 false false), (PoolUse.mk 0 2 1 false false), (PoolUse.mk 0 1 0 false true), (PoolUse.mk 0 0 0 true false), (PoolUse.mk 0 2 0 false false)] : List PoolUse).length) 6), (26, .bool false)]) (by simp only [hb21]; kernel_rfl) ?_
          refine OpsT.pures (r := []) [15, 16, 17, 18, 19, 20, 21, 22, 23, 24, 25, 26, 27, 28, 29, 30, 31, 32, 33, 34, 35, 36, 37, 38, 39, 40, 41, 42, 43, 44, 45] [0] (S' := [(0, .bool false)]) (by kernel_rfl) ?_
          refine OpsT.done ?_
          have hI := hI.drop
          have e := someS h1
          subst e
          exact Qn.thenJ fun a ha => ⟨false, Z2, rfl, ha.keep [0] (by kernel_rfl), hI, (Hp.le_refl _)⟩
      · rw [if_neg hb15] at h1
        have hb15 : ((y6.length : Int) == 2) = false := by simpa using hb15
        refine OpsT.keep [1, 2, 20] (S' := [(1, .slice (some ⟨b1, 0, none⟩) (([(PoolUse.mk 0 0 3 false false), (PoolUse.mk 0 0 1 false false), (PoolUse.mk 0 2 1 false false), (PoolUse.mk 0 1 0 false true), (PoolUse.mk 0 0 0 true false), (PoolUse.mk 0 2 0 false false)] : List PoolUse).length) 6), (2, .slice A7 y6.length cp8), (20, .bool false)]) (by simp only [hb15]; kernel_rfl) ?_
        refine OpsT.pures (r := []) [9, 10, 11, 12, 13, 14, 15, 16, 17, 18, 19, 20, 21, 22, 23, 24, 25, 26, 27, 28, 29, 30, 31, 32, 33, 34, 35, 36, 37, 38, 39, 40, 41, 42, 43, 44, 45] [0] (S' := [(0, .bool false)]) (by kernel_rfl) ?_
        refine OpsT.done ?_
        have hI := hI.drop
        have e := someS h1
        subst e
        exact Qn.thenJ fun a ha => ⟨false, Z2, rfl, ha.keep [0] (by kernel_rfl), hI, (Hp.le_refl _)⟩
    · rw [if_neg hb14] at h1
      have hb14 : (y13 == 1) = false := by simpa using hb14
      refine OpsT.keep [1, 2, 15] (S' := [(1, .slice (some ⟨b1, 0, none⟩) (([(PoolUse.mk 0 0 3 false false), (PoolUse.mk 0 0 1 false false), (PoolUse.mk 0 2 1 false false), (PoolUse.mk 0 1 0 false true), (PoolUse.mk 0 0 0 true false), (PoolUse.mk 0 2 0 false false)] : List PoolUse).length) 6), (2, .slice A7 y6.length cp8), (15, .bool false)]) (by simp only [hb14]; kernel_rfl) ?_
      refine OpsT.pures (r := []) [4, 5, 6, 7, 8, 9, 10, 11, 12, 13, 14, 15, 16, 17, 18, 19, 20, 21, 22, 23, 24, 25, 26, 27, 28, 29, 30, 31, 32, 33, 34, 35, 36, 37, 38, 39, 40, 41, 42, 43, 44, 45] [0] (S' := [(0, .bool false)]) (by kernel_rfl) ?_
      refine OpsT.done ?_
      have hI := hI.drop
      have e := someS h1
      subst e
      exact Qn.thenJ fun a ha => ⟨false, Z2, rfl, ha.keep [0] (by kernel_rfl), hI, (Hp.le_refl _)⟩
  ·
    rintro a w ⟨x11, Z9, rfl, ha, hI, hle10⟩
    try dsimp only at h0
    refine CodT.of ?_ ha
    refine CodT.ret ?_
    have e := someS h0
    subst e
    refine Qn.keep [0] (S' := [(0, .bool x11)]) (by kernel_rfl) ?_
    exact post_ret (v := .bool x11) (fun a ha => RunRes.run (vs := [.bool x11]) (.tmp (t := 0) (by kernel_rfl) .nil) ha (by kernel_rfl)) ⟨rfl, hI.weaken (Hp.le_trans hle3 hle10)⟩
set_option maxRecDepth 100000 in
set_option maxHeartbeats 4000000 in
/-- cenotaph/cenotaphlaw17.tame -/
theorem c25 (w0 w : World) (Z : Hp) (A : HP)  (hI : Inv w0 Z w A) (A_a0 : Option Addr) (c_a0 : Nat) (a0 : (List PoolUse)) (hr_a0 : RdS Z c_PoolUse 5 A_a0 c_a0 a0) (r : Bool) (h0 : law17_tame a0 = some r) :
    Calls prog 25 #[.slice A_a0 a0.length c_a0] w (fun e w' => e = .returned (.bool r) ∧ Inv w0 Z w' A) := by
  refine calls_intro (args := [.slice A_a0 a0.length c_a0]) (fn := Go.Proofs.Try.f25) 31 Go.Proofs.Try.func25 (by rfl) Go.Proofs.Try.ntmps25 (by kernel_rfl) ?_
  unfold law17_tame at h0
  refine CodT.seq ?_
  refine CodT.regionL [0] (by kernel_rfl) ?_
  refine OpsT.pures (r := []) [0] [0] (S' := [(0, .slice A_a0 a0.length c_a0)]) (by kernel_rfl) ?_
  refine OpsT.done ?_
  refine Qn.then ?_
  refine CodT.seq ?_
  refine CodT.seq ?_
  refine CodT.regionL [0] (by kernel_rfl) ?_
  refine OpsT.pures (r := []) [0] [0, 3] (S' := [(0, .slice A_a0 a0.length c_a0), (3, .int .i64 0)]) (by kernel_rfl) ?_
  refine OpsT.done ?_
  refine Qn.then ?_
  obtain ⟨r1, h1, h0⟩ := bindS h0
  refine CodT.meet1 (fun a w => .inr () = r1 ∧ Fr 31 [(0, .slice A_a0 a0.length c_a0)] a ∧ Inv w0 Z w A) ?_ ?_
  ·
    refine CodT.block ?_
    refine (fun a ha => wp_loopN (fun k a w => ∃ (x1 : Int), law17_tame.l0 a0 k x1 = some r1 ∧ Fr 31 [(0, .slice A_a0 a0.length c_a0), (3, .int .i64 x1)] a ∧ Inv w0 Z w A) ?_ FU a w ⟨0, h1, ha.keep [0, 3] (by kernel_rfl), hI⟩)
    clear h1 hI
    rintro k a w ⟨x1, h1, ha, hI⟩
    rcases k with _ | k
    · cases h1
    simp only [law17_tame.l0] at h1
    refine CodT.of ?_ ha
    refine CodT.seq ?_
    obtain ⟨r2, h2, h1⟩ := bindS h1
    refine CodT.meet (fun a w => ∃ (x2 : Bool), x2 = r2 ∧ Fr 31 [(0, .slice A_a0 a0.length c_a0), (3, .int .i64 x1), (11, .bool x2)] a ∧ Inv w0 Z w A) ?_ ?_
    ·
      refine CodT.regionL [0, 1, 2, 3, 4, 5, 6, 7] (by kernel_rfl) ?_
      refine OpsT.pures (r := [5, 6, 7]) [0, 1, 2, 3, 4] [0, 3, 8] (S' := [(0, .slice A_a0 a0.length c_a0), (3, .int .i64 x1), (8, .bool (decide (x1 < (a0.length : Int))))]) (by kernel_rfl) ?_
      by_cases hb3 : (decide (x1 < (a0.length : Int))) = true
      · rw [if_pos hb3] at h2
        refine OpsT.keep [0, 3, 8] (S' := [(0, .slice A_a0 a0.length c_a0), (3, .int .i64 x1), (8, .bool true)]) (by simp only [hb3]; kernel_rfl) ?_
        refine OpsT.pures (r := []) [5, 6, 7] [0, 3, 11] (S' := [(0, .slice A_a0 a0.length c_a0), (3, .int .i64 x1), (11, .bool (decide (x1 ≤ 64)))]) (by kernel_rfl) ?_
        refine OpsT.done ?_
        have e := someS h2
        subst e
        exact Qn.thenJ fun a ha => ⟨decide (x1 ≤ 64), rfl, ha.keep [0, 3, 11] (by kernel_rfl), hI⟩
      · rw [if_neg hb3] at h2
        have hb3 : (decide (x1 < (a0.length : Int))) = false := by simpa using hb3
        refine OpsT.keep [0, 3, 8] (S' := [(0, .slice A_a0 a0.length c_a0), (3, .int .i64 x1), (8, .bool false)]) (by simp only [hb3]; kernel_rfl) ?_
        refine OpsT.pures (r := []) [5, 6, 7] [0, 3, 11] (S' := [(0, .slice A_a0 a0.length c_a0), (3, .int .i64 x1), (11, .bool false)]) (by kernel_rfl) ?_
        refine OpsT.done ?_
        have e := someS h2
        subst e
        exact Qn.thenJ fun a ha => ⟨false, rfl, ha.keep [0, 3, 11] (by kernel_rfl), hI⟩
    ·
      rintro a w ⟨x2, rfl, ha, hI⟩
      try dsimp only at h1
      refine CodT.of ?_ ha
      by_cases hb4 : x2 = true
      · rw [if_pos hb4] at h1
        refine CodT.yes' (b := x2) (by kernel_rfl) hb4 ?_
        refine CodT.skip ?_
        refine Qn.then ?_
        refine CodT.seq ?_
        refine CodT.block ?_
        obtain ⟨r2, h2, h1⟩ := bindS h1
        refine CodT.meet (fun a w => ∃ (x5 : Bool), x5 = r2 ∧ Fr 31 [(0, .slice A_a0 a0.length c_a0), (3, .int .i64 x1), (27, .bool x5)] a ∧ Inv w0 Z w A) ?_ ?_
        ·
          refine CodT.regionL [0, 1, 2, 3, 4, 5, 6, 7, 8, 9, 10, 11, 12, 13] (by kernel_rfl) ?_
          refine OpsT.pures (r := [2, 3, 4, 5, 6, 7, 8, 9, 10, 11, 12, 13]) [0, 1] [0, 3, 14, 15] (S' := [(0, .slice A_a0 a0.length c_a0), (3, .int .i64 x1), (14, .slice A_a0 a0.length c_a0), (15, .int .i64 x1)]) (by kernel_rfl) ?_
          obtain ⟨hg6, h2⟩ := guardS h2
          obtain ⟨g7, o11, hA8, hr9, hl10⟩ := RdS.get hr_a0 hg6.1 hg6.2
          refine OpsT.cons (Does.yi (Yl.indexSlice (d := 16) (T := 35) (cc := c_a0) (k := .i64) (j := x1) (g := g7) (o := o11) (by kernel_rfl) Go.Proofs.Try.underlying35 ty49 hA8 hg6.1 hg6.2) hI ?_)
          refine OpsT.pures (r := [4, 5, 6, 7, 8, 9, 10, 11, 12, 13]) [3] [0, 3, 17] (S' := [(0, .slice A_a0 a0.length c_a0), (3, .int .i64 x1), (17, .pointer (some ⟨g7, o11 + x1.toNat * 5 + 2, none⟩))]) (by kernel_rfl) ?_
          refine OpsT.cons (Does.yi (Yl.load (d := 18) (T := 3) (v := .int .i64 ((gt a0 x1).Worn)) (by kernel_rfl) (ldR ty3 (v := .int .i64 ((gt a0 x1).Worn)) 2 (fun w hC => hr9 w0 w _ hC) (by kernel_rfl))) hI ?_)
          refine OpsT.pures (r := [7, 8, 9, 10, 11, 12, 13]) [5, 6] [0, 3, 20] (S' := [(0, .slice A_a0 a0.length c_a0), (3, .int .i64 x1), (20, .bool (decide (((gt a0 x1).Worn) > 1099511627776)))]) (by kernel_rfl) ?_
          by_cases hb12 : (decide (((gt a0 x1).Worn) > 1099511627776)) = true
          · rw [if_pos hb12] at h2
            refine OpsT.keep [0, 3, 20] (S' := [(0, .slice A_a0 a0.length c_a0), (3, .int .i64 x1), (20, .bool true)]) (by simp only [hb12]; kernel_rfl) ?_
            refine OpsT.pures (r := []) [7, 8, 9, 10, 11, 12, 13] [0, 3, 27] (S' := [(0, .slice A_a0 a0.length c_a0), (3, .int .i64 x1), (27, .bool true)]) (by kernel_rfl) ?_
            refine OpsT.done ?_
            have e := someS h2
            subst e
            exact Qn.thenJ fun a ha => ⟨true, rfl, ha.keep [0, 3, 27] (by kernel_rfl), hI⟩
          · rw [if_neg hb12] at h2
            have hb12 : (decide (((gt a0 x1).Worn) > 1099511627776)) = false := by simpa using hb12
            refine OpsT.keep [0, 3, 20] (S' := [(0, .slice A_a0 a0.length c_a0), (3, .int .i64 x1), (20, .bool false)]) (by simp only [hb12]; kernel_rfl) ?_
            refine OpsT.pures (r := [9, 10, 11, 12, 13]) [7, 8] [0, 3, 20, 21, 22] (S' := [(0, .slice A_a0 a0.length c_a0), (3, .int .i64 x1), (20, .bool false), (21, .slice A_a0 a0.length c_a0), (22, .int .i64 x1)]) (by kernel_rfl) ?_
            obtain ⟨hg13, h2⟩ := guardS h2
            obtain ⟨g14, o18, hA15, hr16, hl17⟩ := RdS.get hr_a0 hg13.1 hg13.2
            refine OpsT.cons (Does.yi (Yl.indexSlice (d := 23) (T := 35) (cc := c_a0) (k := .i64) (j := x1) (g := g14) (o := o18) (by kernel_rfl) Go.Proofs.Try.underlying35 ty49 hA15 hg13.1 hg13.2) hI ?_)
            refine OpsT.pures (r := [11, 12, 13]) [10] [0, 3, 20, 24] (S' := [(0, .slice A_a0 a0.length c_a0), (3, .int .i64 x1), (20, .bool false), (24, .pointer (some ⟨g14, o18 + x1.toNat * 5 + 2, none⟩))]) (by kernel_rfl) ?_
            refine OpsT.cons (Does.yi (Yl.load (d := 25) (T := 3) (v := .int .i64 ((gt a0 x1).Worn)) (by kernel_rfl) (ldR ty3 (v := .int .i64 ((gt a0 x1).Worn)) 2 (fun w hC => hr16 w0 w _ hC) (by kernel_rfl))) hI ?_)
            refine OpsT.pures (r := []) [12, 13] [0, 3, 27] (S' := [(0, .slice A_a0 a0.length c_a0), (3, .int .i64 x1), (27, .bool (decide (((gt a0 x1).Worn) < (-1099511627776))))]) (by kernel_rfl) ?_
            refine OpsT.done ?_
            have e := someS h2
            subst e
            exact Qn.thenJ fun a ha => ⟨decide (((gt a0 x1).Worn) < (-1099511627776)), rfl, ha.keep [0, 3, 27] (by kernel_rfl), hI⟩
        ·
          rintro a w ⟨x5, rfl, ha, hI⟩
          try dsimp only at h1
          refine CodT.of ?_ ha
          by_cases hb19 : x5 = true
          · rw [if_pos hb19] at h1
            refine CodT.yes' (b := x5) (by kernel_rfl) hb19 ?_
            refine CodT.seq ?_
            refine CodT.regionL [0] (by kernel_rfl) ?_
            refine OpsT.pures (r := []) [0] [2] (S' := [(2, .bool false)]) (by kernel_rfl) ?_
            refine OpsT.done ?_
            refine Qn.then ?_
            refine CodT.ret ?_
            refine Qn.block_ret ?_
            refine Qn.ret_then ?_
            refine Qn.ret_then ?_
            refine Qn.block_ret ?_
            refine Qn.ret_then ?_
            refine Qn.ret_then ?_
            have e := someS h1
            subst e
            try dsimp only at h0
            have e := someS h0
            subst e
            refine Qn.keep [2] (S' := [(2, .bool false)]) (by kernel_rfl) ?_
            exact post_ret (v := .bool false) (fun a ha => RunRes.run (vs := [.bool false]) (.tmp (t := 2) (by kernel_rfl) .nil) ha (by kernel_rfl)) ⟨rfl, hI⟩
          · rw [if_neg hb19] at h1
            refine CodT.no' (b := x5) (by kernel_rfl) (by simpa using hb19) ?_
            refine CodT.skip ?_
            refine Qn.block_normal ?_
            refine Qn.then ?_
            refine CodT.regionL [0, 1, 2] (by kernel_rfl) ?_
            refine OpsT.pures (r := []) [0, 1, 2] [0, 3] (S' := [(0, .slice A_a0 a0.length c_a0), (3, .int .i64 (wi64 (x1 + 1)))]) (by kernel_rfl) ?_
            refine OpsT.done ?_
            exact Qn.thenJ fun a ha => ⟨k, Nat.lt_succ_self k, wi64 (x1 + 1), h1, ha.keep [0, 3] (by kernel_rfl), hI⟩
      · rw [if_neg hb4] at h1
        refine CodT.no' (b := x2) (by kernel_rfl) (by simpa using hb4) ?_
        refine CodT.exit ?_
        refine Qn.exit_then ?_
        refine Qn.exit_then ?_
        refine Qn.block ?_
        have e := someS h1
        subst e
        exact Qn.thenJ fun a ha => ⟨rfl, ha.keep [0] (by kernel_rfl), hI⟩
  ·
    rintro a w ⟨rfl, ha, hI⟩
    try dsimp only at h0
    refine Qn.of ?_ ha
    refine Qn.then ?_
    refine CodT.seq ?_
    refine CodT.regionL [0, 1, 2, 3] (by kernel_rfl) ?_
    refine OpsT.pures (r := []) [0, 1, 2, 3] [2] (S' := [(2, .bool (decide ((a0.length : Int) ≤ 64)))]) (by kernel_rfl) ?_
    refine OpsT.done ?_
    refine Qn.then ?_
    refine CodT.ret ?_
    have e := someS h0
    subst e
    refine Qn.keep [2] (S' := [(2, .bool (decide ((a0.length : Int) ≤ 64)))]) (by kernel_rfl) ?_
    exact post_ret (v := .bool (decide ((a0.length : Int) ≤ 64))) (fun a ha => RunRes.run (vs := [.bool (decide ((a0.length : Int) ≤ 64))]) (.tmp (t := 2) (by kernel_rfl) .nil) ha (by kernel_rfl)) ⟨rfl, hI⟩
set_option maxRecDepth 100000 in
set_option maxHeartbeats 4000000 in
/-- cenotaph/cenotaphlaw17.of -/
theorem c26 (w0 w : World) (Z : Hp) (A : HP)  (hI : Inv w0 Z w A) (A_a0 : Option Addr) (c_a0 : Nat) (a0 : (List PoolUse)) (hr_a0 : RdS Z c_PoolUse 5 A_a0 c_a0 a0) (r : (List Ref17Use)) (h0 : law17_of a0 = some r) :
    Calls prog 26 #[.slice A_a0 a0.length c_a0] w (fun e w' => ∃ (A1 : Option Addr) (c1 : Nat), e = .returned (.slice A1 r.length c1) ∧ Inv w0 Z w' (star (ownS 61 c_Ref17Use 5 A1 c1 r) A)) := by
  refine calls_intro (args := [.slice A_a0 a0.length c_a0]) (fn := Go.Proofs.Try.f26) 31 Go.Proofs.Try.func26 (by rfl) Go.Proofs.Try.ntmps26 (by kernel_rfl) ?_
  unfold law17_of at h0
  refine CodT.seq ?_
  refine CodT.regionL [0] (by kernel_rfl) ?_
  refine OpsT.pures (r := []) [0] [0] (S' := [(0, .slice A_a0 a0.length c_a0)]) (by kernel_rfl) ?_
  refine OpsT.done ?_
  refine Qn.then ?_
  refine CodT.seq ?_
  refine CodT.regionL [0] (by kernel_rfl) ?_
  refine OpsT.pures (r := []) [0] [0, 3] (S' := [(0, .slice A_a0 a0.length c_a0), (3, .slice none 0 0)]) (by kernel_rfl) ?_
  refine OpsT.done ?_
  refine Qn.then ?_
  refine CodT.seq ?_
  refine CodT.seq ?_
  refine CodT.regionL [0] (by kernel_rfl) ?_
  refine OpsT.pures (r := []) [0] [0, 3, 4] (S' := [(0, .slice A_a0 a0.length c_a0), (3, .slice none 0 0), (4, .int .i64 0)]) (by kernel_rfl) ?_
  refine OpsT.done ?_
  refine Qn.then ?_
  obtain ⟨r1, h1, h0⟩ := bindS h0
  refine CodT.meet1 (fun a w => ∃ (x1 : (List Ref17Use)) (A2 : Option Addr) (cp3 : Nat), x1 = r1 ∧ Fr 31 [(3, .slice A2 x1.length cp3)] a ∧ Inv w0 Z w (star (ownS 61 c_Ref17Use 5 A2 cp3 x1) A)) ?_ ?_
  ·
    refine CodT.block ?_
    have hI := ownS_nil (α := Ref17Use) hI 61 c_Ref17Use 5
    refine (fun a ha => wp_loopN (fun k a w => ∃ (x4 : (List Ref17Use)) (x7 : Int) (A5 : Option Addr) (cp6 : Nat), law17_of.l0 a0 k x4 x7 = some r1 ∧ Fr 31 [(0, .slice A_a0 a0.length c_a0), (3, .slice A5 x4.length cp6), (4, .int .i64 x7)] a ∧ Inv w0 Z w (star (ownS 61 c_Ref17Use 5 A5 cp6 x4) A)) ?_ FU a w ⟨([] : List Ref17Use), 0, none, 0, h1, ha.keep [0, 3, 4] (by kernel_rfl), hI⟩)
    clear h1 hI
    rintro k a w ⟨x4, x7, A5, cp6, h1, ha, hI⟩
    rcases k with _ | k
    · cases h1
    simp only [law17_of.l0] at h1
    refine CodT.of ?_ ha
    refine CodT.seq ?_
    refine CodT.seq ?_
    refine CodT.regionL [0, 1, 2, 3] (by kernel_rfl) ?_
    refine OpsT.pures (r := []) [0, 1, 2, 3] [0, 3, 4, 9] (S' := [(0, .slice A_a0 a0.length c_a0), (3, .slice A5 x4.length cp6), (4, .int .i64 x7), (9, .bool (decide (x7 < (a0.length : Int))))]) (by kernel_rfl) ?_
    refine OpsT.done ?_
    refine Qn.then ?_
    by_cases hb8 : (decide (x7 < (a0.length : Int))) = true
    · rw [if_pos hb8] at h1
      refine CodT.yes' (b := decide (x7 < (a0.length : Int))) (by kernel_rfl) hb8 ?_
      refine CodT.skip ?_
      refine Qn.then ?_
      refine CodT.seq ?_
      refine CodT.block ?_
      refine CodT.seq ?_
      refine CodT.regionL [0, 1, 2, 3, 4, 5] (by kernel_rfl) ?_
      refine OpsT.pures (r := [2, 3, 4, 5]) [0, 1] [0, 3, 4, 12, 13] (S' := [(0, .slice A_a0 a0.length c_a0), (3, .slice A5 x4.length cp6), (4, .int .i64 x7), (12, .slice A_a0 a0.length c_a0), (13, .int .i64 x7)]) (by kernel_rfl) ?_
      obtain ⟨hg9, h1⟩ := guardS h1
      obtain ⟨g10, o14, hA11, hr12, hl13⟩ := RdS.get hr_a0 hg9.1 hg9.2
      refine OpsT.cons (Does.yi (Yl.indexSlice (d := 14) (T := 35) (cc := c_a0) (k := .i64) (j := x7) (g := g10) (o := o14) (by kernel_rfl) Go.Proofs.Try.underlying35 ty49 hA11 hg9.1 hg9.2) hI ?_)
      refine OpsT.cons (Does.yi (Yl.load (d := 15) (T := 49) (v := .agg (c_PoolUse (gt a0 x7)).toArray) (by kernel_rfl) (ldRN ty49 (cs := c_PoolUse (gt a0 x7)) 0 (fun w hC => hr12 w0 w _ hC) hl13 (whole _ _ hl13))) hI ?_)
      refine OpsT.cons (Does.allocL (d := 5) (T := 49) (c_PoolUse (PoolUse.mk 0 0 0 false false)) (by kernel_rfl) ty49 hI (by kernel_rfl) ?_)
      intro b15 w hI
      refine OpsT.cons (Does.storeLit (T := 49) (b := b15) (o := 0) (v := .agg (c_PoolUse (gt a0 x7)).toArray) (l := c_PoolUse (PoolUse.mk 0 0 0 false false)) (vs := c_PoolUse (gt a0 x7)) (L' := c_PoolUse (gt a0 x7)) (by kernel_rfl) ty49 hI (by kernel_rfl) (by kernel_rfl) (by kernel_rfl) (by kernel_rfl) (by kernel_rfl) ?_)
      intro w hI
      refine OpsT.done ?_
      refine Qn.then ?_
      refine CodT.regionL [0, 1, 2, 3, 4, 5, 6, 7, 8, 9, 10, 11, 12, 13, 14] (by kernel_rfl) ?_
      refine OpsT.pures (r := [2, 3, 4, 5, 6, 7, 8, 9, 10, 11, 12, 13, 14]) [0, 1] [0, 4, 5, 16, 17] (S' := [(0, .slice A_a0 a0.length c_a0), (4, .int .i64 x7), (5, .pointer (some ⟨b15, 0, none⟩)), (16, .slice A5 x4.length cp6), (17, .pointer (some ⟨b15, 0, none⟩))]) (by kernel_rfl) ?_
      refine OpsT.cons (Does.yi (Yl.load (d := 18) (T := 3) (v := .int .i64 ((gt a0 x7).Next)) (by kernel_rfl) (ldB ty3 (l := c_PoolUse (gt a0 x7)) (o := 0) (v := .int .i64 ((gt a0 x7).Next)) (ent_refl _) (by kernel_rfl))) hI ?_)
      refine OpsT.pures (r := [4, 5, 6, 7, 8, 9, 10, 11, 12, 13, 14]) [3] [0, 4, 5, 16, 18, 19] (S' := [(0, .slice A_a0 a0.length c_a0), (4, .int .i64 x7), (5, .pointer (some ⟨b15, 0, none⟩)), (16, .slice A5 x4.length cp6), (18, .int .i64 ((gt a0 x7).Next)), (19, .pointer (some ⟨b15, 1, none⟩))]) (by kernel_rfl) ?_
      refine OpsT.cons (Does.yi (Yl.load (d := 20) (T := 3) (v := .int .i64 ((gt a0 x7).Live)) (by kernel_rfl) (ldB ty3 (l := c_PoolUse (gt a0 x7)) (o := 1) (v := .int .i64 ((gt a0 x7).Live)) (ent_refl _) (by kernel_rfl))) hI ?_)
      refine OpsT.pures (r := [6, 7, 8, 9, 10, 11, 12, 13, 14]) [5] [0, 4, 5, 16, 18, 20, 21] (S' := [(0, .slice A_a0 a0.length c_a0), (4, .int .i64 x7), (5, .pointer (some ⟨b15, 0, none⟩)), (16, .slice A5 x4.length cp6), (18, .int .i64 ((gt a0 x7).Next)), (20, .int .i64 ((gt a0 x7).Live)), (21, .pointer (some ⟨b15, 2, none⟩))]) (by kernel_rfl) ?_
      refine OpsT.cons (Does.yi (Yl.load (d := 22) (T := 3) (v := .int .i64 ((gt a0 x7).Worn)) (by kernel_rfl) (ldB ty3 (l := c_PoolUse (gt a0 x7)) (o := 2) (v := .int .i64 ((gt a0 x7).Worn)) (ent_refl _) (by kernel_rfl))) hI ?_)
      refine OpsT.pures (r := [8, 9, 10, 11, 12, 13, 14]) [7] [0, 4, 5, 16, 18, 20, 22, 23] (S' := [(0, .slice A_a0 a0.length c_a0), (4, .int .i64 x7), (5, .pointer (some ⟨b15, 0, none⟩)), (16, .slice A5 x4.length cp6), (18, .int .i64 ((gt a0 x7).Next)), (20, .int .i64 ((gt a0 x7).Live)), (22, .int .i64 ((gt a0 x7).Worn)), (23, .pointer (some ⟨b15, 3, none⟩))]) (by kernel_rfl) ?_
      refine OpsT.cons (Does.yi (Yl.load (d := 24) (T := 4) (v := .bool ((gt a0 x7).Bad)) (by kernel_rfl) (ldB ty4 (l := c_PoolUse (gt a0 x7)) (o := 3) (v := .bool ((gt a0 x7).Bad)) (ent_refl _) (by kernel_rfl))) hI ?_)
      refine OpsT.pures (r := [10, 11, 12, 13, 14]) [9] [0, 4, 16, 18, 20, 22, 24, 25] (S' := [(0, .slice A_a0 a0.length c_a0), (4, .int .i64 x7), (16, .slice A5 x4.length cp6), (18, .int .i64 ((gt a0 x7).Next)), (20, .int .i64 ((gt a0 x7).Live)), (22, .int .i64 ((gt a0 x7).Worn)), (24, .bool ((gt a0 x7).Bad)), (25, .pointer (some ⟨b15, 4, none⟩))]) (by kernel_rfl) ?_
      refine OpsT.cons (Does.yi (Yl.load (d := 26) (T := 4) (v := .bool ((gt a0 x7).Keep)) (by kernel_rfl) (ldB ty4 (l := c_PoolUse (gt a0 x7)) (o := 4) (v := .bool ((gt a0 x7).Keep)) (ent_refl _) (by kernel_rfl))) hI ?_)
      refine OpsT.pures (r := [12, 13, 14]) [11] [0, 4, 16, 27] (S' := [(0, .slice A_a0 a0.length c_a0), (4, .int .i64 x7), (16, .slice A5 x4.length cp6), (27, .agg (c_Ref17Use (Ref17Use.mk ((gt a0 x7).Next) ((gt a0 x7).Live) ((gt a0 x7).Worn) ((gt a0 x7).Bad) ((gt a0 x7).Keep))).toArray)]) (by kernel_rfl) ?_
      refine OpsT.cons (Does.buildSlice (en := c_Ref17Use) (d := 28) (n := 1) (T := 37) (ps := [(0, .agg (c_Ref17Use (Ref17Use.mk ((gt a0 x7).Next) ((gt a0 x7).Live) ((gt a0 x7).Worn) ((gt a0 x7).Bad) ((gt a0 x7).Keep))).toArray)]) ([(Ref17Use.mk ((gt a0 x7).Next) ((gt a0 x7).Live) ((gt a0 x7).Worn) ((gt a0 x7).Bad) ((gt a0 x7).Keep))] : List Ref17Use) (by kernel_rfl) Go.Proofs.Try.underlying37 ty61 (by kernel_rfl) (by kernel_rfl) (by kernel_rfl) (by kernel_rfl) (len_all (fun _ => rfl)) hI ?_)
      intro b16 w hI
      obtain ⟨hg17, h1⟩ := guardS h1
      have hI := hI.mono (pick3 _ _ _ _)
      refine OpsT.cons (Does.append (d := 29) (t := 37) (tx := 37) (ty := 37) (ys := x4) (zs := ([(Ref17Use.mk ((gt a0 x7).Next) ((gt a0 x7).Live) ((gt a0 x7).Worn) ((gt a0 x7).Bad) ((gt a0 x7).Keep))] : List Ref17Use)) (x := .slice (some ⟨b16, 0, none⟩) (([(Ref17Use.mk ((gt a0 x7).Next) ((gt a0 x7).Live) ((gt a0 x7).Worn) ((gt a0 x7).Bad) ((gt a0 x7).Keep))] : List Ref17Use).length) 1) (by kernel_rfl) Go.Proofs.Try.underlying37 ty61 (by kernel_rfl) hI (src_own Go.Proofs.Try.underlying37 (hI.mono (pick2 _ _ _)) (one_flat _ (fun _ => rfl))) (ownS_facts (hI.mono (pick2 _ _ _))).2.2 (by unfold LIM at hg17; omega) hg17 ?_)
      intro A18 cp19 w hI
      refine OpsT.pures (r := []) [14] [0, 3, 4] (S' := [(0, .slice A_a0 a0.length c_a0), (3, .slice A18 ((x4 ++ ([(Ref17Use.mk ((gt a0 x7).Next) ((gt a0 x7).Live) ((gt a0 x7).Worn) ((gt a0 x7).Bad) ((gt a0 x7).Keep))] : List Ref17Use)).length) cp19), (4, .int .i64 x7)]) (by kernel_rfl) ?_
      refine OpsT.done ?_
      refine Qn.block_normal ?_
      refine Qn.then ?_
      refine CodT.regionL [0, 1, 2] (by kernel_rfl) ?_
      refine OpsT.pures (r := []) [0, 1, 2] [0, 3, 4] (S' := [(0, .slice A_a0 a0.length c_a0), (3, .slice A18 ((x4 ++ ([(Ref17Use.mk ((gt a0 x7).Next) ((gt a0 x7).Live) ((gt a0 x7).Worn) ((gt a0 x7).Bad) ((gt a0 x7).Keep))] : List Ref17Use)).length) cp19), (4, .int .i64 (wi64 (x7 + 1)))]) (by kernel_rfl) ?_
      refine OpsT.done ?_
      have hI := hI.mono (pick2 _ _ _)
      have hI := hI.drop
      have hI := hI.mono (pick2 _ _ _)
      have hI := hI.drop
      exact Qn.thenJ fun a ha => ⟨k, Nat.lt_succ_self k, x4 ++ ([(Ref17Use.mk ((gt a0 x7).Next) ((gt a0 x7).Live) ((gt a0 x7).Worn) ((gt a0 x7).Bad) ((gt a0 x7).Keep))] : List Ref17Use), wi64 (x7 + 1), A18, cp19, h1, ha.keep [0, 3, 4] (by kernel_rfl), hI⟩
    · rw [if_neg hb8] at h1
      refine CodT.no' (b := decide (x7 < (a0.length : Int))) (by kernel_rfl) (by simpa using hb8) ?_
      refine CodT.exit ?_
      refine Qn.exit_then ?_
      refine Qn.exit_then ?_
      refine Qn.block ?_
      have e := someS h1
      subst e
      exact Qn.thenJ fun a ha => ⟨x4, A5, cp6, rfl, ha.keep [3] (by kernel_rfl), hI⟩
  ·
    rintro a w ⟨x1, A2, cp3, rfl, ha, hI⟩
    try dsimp only at h0
    refine Qn.of ?_ ha
    refine Qn.then ?_
    refine CodT.seq ?_
    refine CodT.regionL [0, 1] (by kernel_rfl) ?_
    refine OpsT.pures (r := []) [0, 1] [2] (S' := [(2, .slice A2 x1.length cp3)]) (by kernel_rfl) ?_
    refine OpsT.done ?_
    refine Qn.then ?_
    refine CodT.ret ?_
    have e := someS h0
    subst e
    refine Qn.keep [2] (S' := [(2, .slice A2 x1.length cp3)]) (by kernel_rfl) ?_
    exact post_ret (v := .slice A2 x1.length cp3) (fun a ha => RunRes.run (vs := [.slice A2 x1.length cp3]) (.tmp (t := 2) (by kernel_rfl) .nil) ha (by kernel_rfl)) ⟨A2, cp3, rfl, hI⟩
set_option maxRecDepth 100000 in
set_option maxHeartbeats 4000000 in
/-- cenotaph/cenotaphref17.free -/
theorem c48 (w0 w : World) (Z : Hp) (A : HP)  (hI : Inv w0 Z w A) (a0 : Ref17Use) (r : Bool) (h0 : ref17_free a0 = some r) :
    Calls prog 48 #[.agg (c_Ref17Use a0).toArray] w (fun e w' => e = .returned (.bool r) ∧ Inv w0 Z w' A) := by
  refine calls_intro (args := [.agg (c_Ref17Use a0).toArray]) (fn := Go.Proofs.Try.f48) 16 Go.Proofs.Try.func48 (by rfl) Go.Proofs.Try.ntmps48 (by kernel_rfl) ?_
  unfold ref17_free at h0
  refine CodT.seq ?_
  refine CodT.regionL [0, 1] (by kernel_rfl) ?_
  refine OpsT.cons (Does.boxL (d := 1) (T := 61) (v := .agg (c_Ref17Use a0).toArray) (c_Ref17Use a0) (by kernel_rfl) hI (by kernel_rfl) ?_)
  intro b1 w hI
  refine OpsT.pures (r := []) [1] [1] (S' := [(1, .pointer (some ⟨b1, 0, none⟩))]) (by kernel_rfl) ?_
  refine OpsT.done ?_
  refine Qn.then ?_
  obtain ⟨r1, h1, h0⟩ := bindS h0
  refine CodT.meet (fun a w => ∃ (x2 : Bool), x2 = r1 ∧ Fr 16 [(2, .bool x2)] a ∧ Inv w0 Z w A) ?_ ?_
  ·
    refine CodT.regionL [0, 1, 2, 3, 4, 5, 6, 7, 8, 9, 10, 11, 12, 13] (by kernel_rfl) ?_
    refine OpsT.pures (r := [1, 2, 3, 4, 5, 6, 7, 8, 9, 10, 11, 12, 13]) [0] [1, 3] (S' := [(1, .pointer (some ⟨b1, 0, none⟩)), (3, .pointer (some ⟨b1, 3, none⟩))]) (by kernel_rfl) ?_
    refine OpsT.cons (Does.yi (Yl.load (d := 4) (T := 4) (v := .bool a0.Bad) (by kernel_rfl) (ldB ty4 (l := c_Ref17Use a0) (o := 3) (v := .bool a0.Bad) (ent_refl _) (by kernel_rfl))) hI ?_)
    refine OpsT.pures (r := [4, 5, 6, 7, 8, 9, 10, 11, 12, 13]) [2, 3] [1, 6] (S' := [(1, .pointer (some ⟨b1, 0, none⟩)), (6, .bool (!a0.Bad))]) (by kernel_rfl) ?_
    by_cases hb3 : (!a0.Bad) = true
    · rw [if_pos hb3] at h1
      refine OpsT.keep [1, 6] (S' := [(1, .pointer (some ⟨b1, 0, none⟩)), (6, .bool true)]) (by simp only [hb3]; kernel_rfl) ?_
      refine OpsT.pures (r := [5, 6, 7, 8, 9, 10, 11, 12, 13]) [4] [1, 6, 7] (S' := [(1, .pointer (some ⟨b1, 0, none⟩)), (6, .bool true), (7, .pointer (some ⟨b1, 4, none⟩))]) (by kernel_rfl) ?_
      refine OpsT.cons (Does.yi (Yl.load (d := 8) (T := 4) (v := .bool a0.Keep) (by kernel_rfl) (ldB ty4 (l := c_Ref17Use a0) (o := 4) (v := .bool a0.Keep) (ent_refl _) (by kernel_rfl))) hI ?_)
      refine OpsT.pures (r := [9, 10, 11, 12, 13]) [6, 7, 8] [1, 11] (S' := [(1, .pointer (some ⟨b1, 0, none⟩)), (11, .bool (!a0.Keep))]) (by kernel_rfl) ?_
      by_cases hb4 : (!a0.Keep) = true
      · rw [if_pos hb4] at h1
        refine OpsT.keep [1, 11] (S' := [(1, .pointer (some ⟨b1, 0, none⟩)), (11, .bool true)]) (by simp only [hb4]; kernel_rfl) ?_
        refine OpsT.pures (r := [10, 11, 12, 13]) [9] [11, 12] (S' := [(11, .bool true), (12, .pointer (some ⟨b1, 1, none⟩))]) (by kernel_rfl) ?_
        refine OpsT.cons (Does.yi (Yl.load (d := 13) (T := 3) (v := .int .i64 a0.Live) (by kernel_rfl) (ldB ty3 (l := c_Ref17Use a0) (o := 1) (v := .int .i64 a0.Live) (ent_refl _) (by kernel_rfl))) hI ?_)
        refine OpsT.pures (r := []) [11, 12, 13] [2] (S' := [(2, .bool (decide (a0.Live ≤ 0)))]) (by kernel_rfl) ?_
        refine OpsT.done ?_
        have hI := hI.drop
        have e := someS h1
        subst e
        exact Qn.thenJ fun a ha => ⟨decide (a0.Live ≤ 0), rfl, ha.keep [2] (by kernel_rfl), hI⟩
      · rw [if_neg hb4] at h1
        have hb4 : (!a0.Keep) = false := by simpa using hb4
        refine OpsT.keep [1, 11] (S' := [(1, .pointer (some ⟨b1, 0, none⟩)), (11, .bool false)]) (by simp only [hb4]; kernel_rfl) ?_
        refine OpsT.pures (r := []) [9, 10, 11, 12, 13] [2] (S' := [(2, .bool false)]) (by kernel_rfl) ?_
        refine OpsT.done ?_
        have hI := hI.drop
        have e := someS h1
        subst e
        exact Qn.thenJ fun a ha => ⟨false, rfl, ha.keep [2] (by kernel_rfl), hI⟩
    · rw [if_neg hb3] at h1
      have hb3 : (!a0.Bad) = false := by simpa using hb3
      refine OpsT.keep [1, 6] (S' := [(1, .pointer (some ⟨b1, 0, none⟩)), (6, .bool false)]) (by simp only [hb3]; kernel_rfl) ?_
      refine OpsT.pures (r := []) [4, 5, 6, 7, 8, 9, 10, 11, 12, 13] [2] (S' := [(2, .bool false)]) (by kernel_rfl) ?_
      refine OpsT.done ?_
      have hI := hI.drop
      have e := someS h1
      subst e
      exact Qn.thenJ fun a ha => ⟨false, rfl, ha.keep [2] (by kernel_rfl), hI⟩
  ·
    rintro a w ⟨x2, rfl, ha, hI⟩
    try dsimp only at h0
    refine CodT.of ?_ ha
    refine CodT.ret ?_
    have e := someS h0
    subst e
    refine Qn.keep [2] (S' := [(2, .bool x2)]) (by kernel_rfl) ?_
    exact post_ret (v := .bool x2) (fun a ha => RunRes.run (vs := [.bool x2]) (.tmp (t := 2) (by kernel_rfl) .nil) ha (by kernel_rfl)) ⟨rfl, hI⟩
set_option maxRecDepth 100000 in
set_option maxHeartbeats 4000000 in
/-- cenotaph/cenotaphref17.Free -/
theorem c29 (w0 w : World) (Z : Hp) (A : HP)  (hI : Inv w0 Z w A) (A_a0 : Option Addr) (c_a0 : Nat) (a0 : (List Ref17Use)) (hr_a0 : RdS Z c_Ref17Use 5 A_a0 c_a0 a0) (r : (List Int)) (h0 : ref17_Free a0 = some r) :
    Calls prog 29 #[.slice A_a0 a0.length c_a0] w (fun e w' => ∃ (A1 : Option Addr) (c1 : Nat), e = .returned (.slice A1 r.length c1) ∧ Inv w0 Z w' (star (ownS 3 (cI .i64) 1 A1 c1 r) A)) := by
  refine calls_intro (args := [.slice A_a0 a0.length c_a0]) (fn := Go.Proofs.Try.f29) 63 Go.Proofs.Try.func29 (by rfl) Go.Proofs.Try.ntmps29 (by kernel_rfl) ?_
  unfold ref17_Free at h0
  refine CodT.seq ?_
  refine CodT.regionL [0] (by kernel_rfl) ?_
  refine OpsT.pures (r := []) [0] [0] (S' := [(0, .slice A_a0 a0.length c_a0)]) (by kernel_rfl) ?_
  refine OpsT.done ?_
  refine Qn.then ?_
  refine CodT.seq ?_
  refine CodT.regionL [0] (by kernel_rfl) ?_
  refine OpsT.pures (r := []) [0] [0, 3] (S' := [(0, .slice A_a0 a0.length c_a0), (3, .slice none 0 0)]) (by kernel_rfl) ?_
  refine OpsT.done ?_
  refine Qn.then ?_
  refine CodT.seq ?_
  refine CodT.regionL [0, 1, 2, 3] (by kernel_rfl) ?_
  refine OpsT.pures (r := [2, 3]) [0, 1] [0, 3, 9] (S' := [(0, .slice A_a0 a0.length c_a0), (3, .slice none 0 0), (9, .int .i64 (a0.length : Int))]) (by kernel_rfl) ?_
  obtain ⟨hg1, h0⟩ := guardS h0
  refine OpsT.cons (Does.makeSlice (k := .i64) (k' := .i64) (d := 10) (T := 65) (en := cB) (l := (a0.length : Int)) (m := (a0.length : Int)) (false : Bool) (by kernel_rfl) Go.Proofs.Try.underlying65 ty4 (by kernel_rfl) (by kernel_rfl) (by kernel_rfl) hg1 hI ?_)
  intro b2 w hI
  refine OpsT.pures (r := []) [3] [0, 3, 4] (S' := [(0, .slice A_a0 a0.length c_a0), (3, .slice none 0 0), (4, .slice (some ⟨b2, 0, none⟩) ((List.replicate (a0.length : Int).toNat (false : Bool)).length) ((a0.length : Int).toNat))]) (by kernel_rfl) ?_
  refine OpsT.done ?_
  refine Qn.then ?_
  refine CodT.seq ?_
  refine CodT.seq ?_
  refine CodT.regionL [0] (by kernel_rfl) ?_
  refine OpsT.pures (r := []) [0] [0, 3, 4, 5] (S' := [(0, .slice A_a0 a0.length c_a0), (3, .slice none 0 0), (4, .slice (some ⟨b2, 0, none⟩) ((List.replicate (a0.length : Int).toNat (false : Bool)).length) ((a0.length : Int).toNat)), (5, .int .i64 0)]) (by kernel_rfl) ?_
  refine OpsT.done ?_
  refine Qn.then ?_
  obtain ⟨r1, h1, h0⟩ := bindS h0
  refine CodT.meet1 (fun a w => ∃ (x3 : (List Int)) (A4 : Option Addr) (cp5 : Nat), x3 = r1 ∧ Fr 63 [(3, .slice A4 x3.length cp5)] a ∧ Inv w0 Z w (star (ownS 3 (cI .i64) 1 A4 cp5 x3) A)) ?_ ?_
  ·
    refine CodT.block ?_
    have hI := ownS_nil (α := Int) hI 3 (cI .i64) 1
    refine (fun a ha => wp_loopN (fun k a w => ∃ (x6 : (List Int)) (x9 : (List Bool)) (x12 : Int) (A7 : Option Addr) (cp8 : Nat) (A10 : Option Addr) (cp11 : Nat), ref17_Free.l0 a0 k x6 x9 x12 = some r1 ∧ Fr 63 [(0, .slice A_a0 a0.length c_a0), (3, .slice A7 x6.length cp8), (4, .slice A10 x9.length cp11), (5, .int .i64 x12)] a ∧ Inv w0 Z w (star (ownS 3 (cI .i64) 1 A7 cp8 x6) (star (ownS 4 cB 1 A10 cp11 x9) A))) ?_ FU a w ⟨([] : List Int), List.replicate (a0.length : Int).toNat (false : Bool), 0, none, 0, (some ⟨b2, 0, none⟩), (a0.length : Int).toNat, h1, ha.keep [0, 3, 4, 5] (by kernel_rfl), hI⟩)
    clear h1 hI
    rintro k a w ⟨x6, x9, x12, A7, cp8, A10, cp11, h1, ha, hI⟩
    rcases k with _ | k
    · cases h1
    simp only [ref17_Free.l0] at h1
    refine CodT.of ?_ ha
    refine CodT.seq ?_
    refine CodT.seq ?_
    refine CodT.regionL [0, 1, 2, 3] (by kernel_rfl) ?_
    refine OpsT.pures (r := []) [0, 1, 2, 3] [0, 3, 4, 5, 14] (S' := [(0, .slice A_a0 a0.length c_a0), (3, .slice A7 x6.length cp8), (4, .slice A10 x9.length cp11), (5, .int .i64 x12), (14, .bool (decide (x12 < (a0.length : Int))))]) (by kernel_rfl) ?_
    refine OpsT.done ?_
    refine Qn.then ?_
    by_cases hb13 : (decide (x12 < (a0.length : Int))) = true
    · rw [if_pos hb13] at h1
      refine CodT.yes' (b := decide (x12 < (a0.length : Int))) (by kernel_rfl) hb13 ?_
      refine CodT.skip ?_
      refine Qn.then ?_
      obtain ⟨r2, h2, h1⟩ := bindS h1
      refine CodT.meet (fun a w => ∃ (x14 : (List Int)) (x17 : (List Bool)) (A15 : Option Addr) (cp16 : Nat) (A18 : Option Addr) (cp19 : Nat), (x14, x17) = r2 ∧ Fr 63 [(0, .slice A_a0 a0.length c_a0), (3, .slice A15 x14.length cp16), (4, .slice A18 x17.length cp19), (5, .int .i64 x12)] a ∧ Inv w0 Z w (star (ownS 3 (cI .i64) 1 A15 cp16 x14) (star (ownS 4 cB 1 A18 cp19 x17) A))) ?_ ?_
      ·
        refine CodT.block ?_
        refine CodT.seq ?_
        refine CodT.regionL [0] (by kernel_rfl) ?_
        refine OpsT.pures (r := []) [0] [0, 3, 4, 5, 6] (S' := [(0, .slice A_a0 a0.length c_a0), (3, .slice A7 x6.length cp8), (4, .slice A10 x9.length cp11), (5, .int .i64 x12), (6, .int .i64 (-1))]) (by kernel_rfl) ?_
        refine OpsT.done ?_
        refine Qn.then ?_
        refine CodT.seq ?_
        refine CodT.seq ?_
        refine CodT.regionL [0] (by kernel_rfl) ?_
        refine OpsT.pures (r := []) [0] [0, 3, 4, 5, 6, 7] (S' := [(0, .slice A_a0 a0.length c_a0), (3, .slice A7 x6.length cp8), (4, .slice A10 x9.length cp11), (5, .int .i64 x12), (6, .int .i64 (-1)), (7, .int .i64 0)]) (by kernel_rfl) ?_
        refine OpsT.done ?_
        refine Qn.then ?_
        obtain ⟨r3, h3, h2⟩ := bindS h2
        refine CodT.meet1 (fun a w => ∃ (x20 : Int), x20 = r3 ∧ Fr 63 [(0, .slice A_a0 a0.length c_a0), (3, .slice A7 x6.length cp8), (4, .slice A10 x9.length cp11), (5, .int .i64 x12), (6, .int .i64 x20)] a ∧ Inv w0 Z w (star (ownS 3 (cI .i64) 1 A7 cp8 x6) (star (ownS 4 cB 1 A10 cp11 x9) A))) ?_ ?_
        ·
          refine CodT.block ?_
          refine (fun a ha => wp_loopN (fun k a w => ∃ (x21 : Int) (x22 : Int), ref17_Free.l1 a0 x9 k x21 x22 = some r3 ∧ Fr 63 [(0, .slice A_a0 a0.length c_a0), (3, .slice A7 x6.length cp8), (4, .slice A10 x9.length cp11), (5, .int .i64 x12), (6, .int .i64 x21), (7, .int .i64 x22)] a ∧ Inv w0 Z w (star (ownS 3 (cI .i64) 1 A7 cp8 x6) (star (ownS 4 cB 1 A10 cp11 x9) A))) ?_ FU a w ⟨-1, 0, h3, ha.keep [0, 3, 4, 5, 6, 7] (by kernel_rfl), hI⟩)
          clear h3 hI
          rintro k a w ⟨x21, x22, h3, ha, hI⟩
          rcases k with _ | k
          · cases h3
          simp only [ref17_Free.l1] at h3
          refine CodT.of ?_ ha
          refine CodT.seq ?_
          refine CodT.seq ?_
          refine CodT.regionL [0, 1, 2, 3] (by kernel_rfl) ?_
          refine OpsT.pures (r := []) [0, 1, 2, 3] [0, 3, 4, 5, 6, 7, 20] (S' := [(0, .slice A_a0 a0.length c_a0), (3, .slice A7 x6.length cp8), (4, .slice A10 x9.length cp11), (5, .int .i64 x12), (6, .int .i64 x21), (7, .int .i64 x22), (20, .bool (decide (x22 < (a0.length : Int))))]) (by kernel_rfl) ?_
          refine OpsT.done ?_
          refine Qn.then ?_
          by_cases hb23 : (decide (x22 < (a0.length : Int))) = true
          · rw [if_pos hb23] at h3
            refine CodT.yes' (b := decide (x22 < (a0.length : Int))) (by kernel_rfl) hb23 ?_
            refine CodT.skip ?_
            refine Qn.then ?_
            obtain ⟨r4, h4, h3⟩ := bindS h3
            refine CodT.meet (fun a w => ∃ (x24 : Int), x24 = r4 ∧ Fr 63 [(0, .slice A_a0 a0.length c_a0), (3, .slice A7 x6.length cp8), (4, .slice A10 x9.length cp11), (5, .int .i64 x12), (6, .int .i64 x24), (7, .int .i64 x22)] a ∧ Inv w0 Z w (star (ownS 3 (cI .i64) 1 A7 cp8 x6) (star (ownS 4 cB 1 A10 cp11 x9) A))) ?_ ?_
            ·
              refine CodT.block ?_
              obtain ⟨r5, h5, h4⟩ := bindS h4
              refine CodT.meet (fun a w => ∃ (x25 : Bool), x25 = r5 ∧ Fr 63 [(0, .slice A_a0 a0.length c_a0), (3, .slice A7 x6.length cp8), (4, .slice A10 x9.length cp11), (5, .int .i64 x12), (6, .int .i64 x21), (7, .int .i64 x22), (51, .bool x25)] a ∧ Inv w0 Z w (star (ownS 3 (cI .i64) 1 A7 cp8 x6) (star (ownS 4 cB 1 A10 cp11 x9) A))) ?_ ?_
              ·
                refine CodT.drawI (n := 29) [] (by kernel_rfl) (by kernel_rfl) hI ?_
                intro w hI
                refine GmT.p' 0 23 (.slice A10 x9.length cp11) (by kernel_rfl) (by kernel_rfl) ?_
                refine GmT.p' 1 24 (.int .i64 x22) (by kernel_rfl) (by kernel_rfl) ?_
                obtain ⟨hg26, h5⟩ := guardS h5
                obtain ⟨g27, hA28, hr29, hl30⟩ := ownS_get (hI.mono (pick2 _ _ _)) hg26.1 hg26.2
                refine GmT.r (i := 2) 2 (by kernel_rfl) (by kernel_rfl) (Yl.indexSlice (d := 25) (T := 65) (cc := cp11) (k := .i64) (j := x22) (g := g27) (o := 0) (by kernel_rfl) Go.Proofs.Try.underlying65 ty4 hA28 hg26.1 hg26.2) hI ?_
                refine GmT.r (i := 3) 2 (by kernel_rfl) (by kernel_rfl) (Yl.load (d := 26) (T := 4) (v := .bool (gt x9 x22)) (by kernel_rfl) (ldR ty4 (v := .bool (gt x9 x22)) 0 (fun w hC => hr29 w0 w _ (hC.mono (pick2 _ _ _))) (by kernel_rfl))) hI ?_
                refine GmT.p' 4 27 (.bool (!(gt x9 x22))) (by kernel_rfl) (by kernel_rfl) ?_
                refine GmT.p' 5 28 (.bool (!(gt x9 x22))) (by kernel_rfl) (by kernel_rfl) ?_
                by_cases hb31 : (!(gt x9 x22)) = true
                · rw [if_pos hb31] at h5
                  refine GmT.keep [0, 3, 4, 5, 6, 7, 28] (S' := [(0, .slice A_a0 a0.length c_a0), (3, .slice A7 x6.length cp8), (4, .slice A10 x9.length cp11), (5, .int .i64 x12), (6, .int .i64 x21), (7, .int .i64 x22), (28, .bool true)]) (by simp only [hb31]; kernel_rfl) ?_
                  refine GmT.p' 6 29 (.slice A_a0 a0.length c_a0) (by kernel_rfl) (by kernel_rfl) ?_
                  refine GmT.p' 7 30 (.int .i64 x22) (by kernel_rfl) (by kernel_rfl) ?_
                  obtain ⟨hg32, h5⟩ := guardS h5
                  obtain ⟨g33, o37, hA34, hr35, hl36⟩ := RdS.get hr_a0 hg32.1 hg32.2
                  refine GmT.r (i := 8) 2 (by kernel_rfl) (by kernel_rfl) (Yl.indexSlice (d := 31) (T := 37) (cc := c_a0) (k := .i64) (j := x22) (g := g33) (o := o37) (by kernel_rfl) Go.Proofs.Try.underlying37 ty61 hA34 hg32.1 hg32.2) hI ?_
                  refine GmT.r (i := 9) 2 (by kernel_rfl) (by kernel_rfl) (Yl.load (d := 32) (T := 61) (v := .agg (c_Ref17Use (gt a0 x22)).toArray) (by kernel_rfl) (ldRN ty61 (cs := c_Ref17Use (gt a0 x22)) 0 (fun w hC => hr35 w0 w _ hC) hl36 (whole _ _ hl36))) hI ?_
                  obtain ⟨y39, hc38, h5⟩ := bindS h5
                  try dsimp only at h5
                  refine GmT.o (i := 10) (by kernel_rfl) (Does.call (d := some 33) (n := 48) (vs := [.agg (c_Ref17Use (gt a0 x22)).toArray]) (by kernel_rfl) en48 (c48 w0 w _ _ hI (gt a0 x22) _ hc38) ?_)
                  rintro e w ⟨rfl, hI⟩
                  refine ⟨_, rfl, ?_⟩
                  refine ⟨fun _ _ => hI, ?_⟩
                  refine GmT.p' 11 34 (.bool y39) (by kernel_rfl) (by kernel_rfl) ?_
                  refine GmT.p' 12 35 (.bool y39) (by kernel_rfl) (by kernel_rfl) ?_
                  by_cases hb40 : y39 = true
                  · rw [if_pos hb40] at h5
                    refine GmT.keep [0, 3, 4, 5, 6, 7, 35] (S' := [(0, .slice A_a0 a0.length c_a0), (3, .slice A7 x6.length cp8), (4, .slice A10 x9.length cp11), (5, .int .i64 x12), (6, .int .i64 x21), (7, .int .i64 x22), (35, .bool true)]) (by simp only [hb40]; kernel_rfl) ?_
                    refine GmT.p' 13 36 (.int .i64 x21) (by kernel_rfl) (by kernel_rfl) ?_
                    refine GmT.p' 14 37 (.bool (decide (x21 < 0))) (by kernel_rfl) (by kernel_rfl) ?_
                    refine GmT.p' 15 38 (.bool (decide (x21 < 0))) (by kernel_rfl) (by kernel_rfl) ?_
                    by_cases hb41 : (decide (x21 < 0)) = true
                    · rw [if_pos hb41] at h5
                      refine GmT.keep [0, 3, 4, 5, 6, 7, 35, 38] (S' := [(0, .slice A_a0 a0.length c_a0), (3, .slice A7 x6.length cp8), (4, .slice A10 x9.length cp11), (5, .int .i64 x12), (6, .int .i64 x21), (7, .int .i64 x22), (35, .bool true), (38, .bool true)]) (by simp only [hb41]; kernel_rfl) ?_
                      refine GmT.p' 16 39 (undef) (by kernel_rfl) (by kernel_rfl) ?_
                      refine GmT.p' 17 40 (undef) (by kernel_rfl) (by kernel_rfl) ?_
                      refine GmT.p' 18 41 (undef) (by kernel_rfl) (by kernel_rfl) ?_
                      refine GmT.p' 19 42 (undef) (by kernel_rfl) (by kernel_rfl) ?_
                      refine GmT.p' 20 43 (undef) (by kernel_rfl) (by kernel_rfl) ?_
                      refine GmT.p' 21 44 (undef) (by kernel_rfl) (by kernel_rfl) ?_
                      refine GmT.p' 22 45 (undef) (by kernel_rfl) (by kernel_rfl) ?_
                      refine GmT.p' 23 46 (undef) (by kernel_rfl) (by kernel_rfl) ?_
                      refine GmT.p' 24 47 (undef) (by kernel_rfl) (by kernel_rfl) ?_
                      refine GmT.p' 25 48 (undef) (by kernel_rfl) (by kernel_rfl) ?_
                      refine GmT.p' 26 49 (undef) (by kernel_rfl) (by kernel_rfl) ?_
                      refine GmT.p' 27 50 (.bool true) (by kernel_rfl) (by kernel_rfl) ?_
                      refine GmT.p' 28 51 (.bool true) (by kernel_rfl) (by kernel_rfl) ?_
                      refine GmT.done (by kernel_rfl) ?_
                      have e := someS h5
                      subst e
                      exact Qn.thenJ fun a ha => ⟨true, rfl, ha.keep [0, 3, 4, 5, 6, 7, 51] (by kernel_rfl), hI⟩
                    · rw [if_neg hb41] at h5
                      have hb41 : (decide (x21 < 0)) = false := by simpa using hb41
                      refine GmT.keep [0, 3, 4, 5, 6, 7, 35, 38] (S' := [(0, .slice A_a0 a0.length c_a0), (3, .slice A7 x6.length cp8), (4, .slice A10 x9.length cp11), (5, .int .i64 x12), (6, .int .i64 x21), (7, .int .i64 x22), (35, .bool true), (38, .bool false)]) (by simp only [hb41]; kernel_rfl) ?_
                      refine GmT.p' 16 39 (.slice A_a0 a0.length c_a0) (by kernel_rfl) (by kernel_rfl) ?_
                      refine GmT.p' 17 40 (.int .i64 x22) (by kernel_rfl) (by kernel_rfl) ?_
                      refine GmT.p' 21 44 (.slice A_a0 a0.length c_a0) (by kernel_rfl) (by kernel_rfl) ?_
                      refine GmT.p' 22 45 (.int .i64 x21) (by kernel_rfl) (by kernel_rfl) ?_
                      obtain ⟨hg42, h5⟩ := guardS h5
                      obtain ⟨g43, o47, hA44, hr45, hl46⟩ := RdS.get hr_a0 hg42.1 hg42.2
                      refine GmT.r (i := 18) 2 (by kernel_rfl) (by kernel_rfl) (Yl.indexSlice (d := 41) (T := 37) (cc := c_a0) (k := .i64) (j := x22) (g := g43) (o := o47) (by kernel_rfl) Go.Proofs.Try.underlying37 ty61 hA44 hg42.1 hg42.2) hI ?_
                      refine GmT.p' 19 42 (.pointer (some ⟨g43, o47 + x22.toNat * 5 + 2, none⟩)) (by kernel_rfl) (by kernel_rfl) ?_
                      refine GmT.r (i := 20) 2 (by kernel_rfl) (by kernel_rfl) (Yl.load (d := 43) (T := 3) (v := .int .i64 ((gt a0 x22).Worn)) (by kernel_rfl) (ldR ty3 (v := .int .i64 ((gt a0 x22).Worn)) 2 (fun w hC => hr45 w0 w _ hC) (by kernel_rfl))) hI ?_
                      obtain ⟨hg48, h5⟩ := guardS h5
                      obtain ⟨g49, o53, hA50, hr51, hl52⟩ := RdS.get hr_a0 hg48.1 hg48.2
                      refine GmT.r (i := 23) 2 (by kernel_rfl) (by kernel_rfl) (Yl.indexSlice (d := 46) (T := 37) (cc := c_a0) (k := .i64) (j := x21) (g := g49) (o := o53) (by kernel_rfl) Go.Proofs.Try.underlying37 ty61 hA50 hg48.1 hg48.2) hI ?_
                      refine GmT.p' 24 47 (.pointer (some ⟨g49, o53 + x21.toNat * 5 + 2, none⟩)) (by kernel_rfl) (by kernel_rfl) ?_
                      refine GmT.r (i := 25) 2 (by kernel_rfl) (by kernel_rfl) (Yl.load (d := 48) (T := 3) (v := .int .i64 ((gt a0 x21).Worn)) (by kernel_rfl) (ldR ty3 (v := .int .i64 ((gt a0 x21).Worn)) 2 (fun w hC => hr51 w0 w _ hC) (by kernel_rfl))) hI ?_
                      refine GmT.p' 26 49 (.bool (decide (((gt a0 x22).Worn) < ((gt a0 x21).Worn)))) (by kernel_rfl) (by kernel_rfl) ?_
                      refine GmT.p' 27 50 (.bool (decide (((gt a0 x22).Worn) < ((gt a0 x21).Worn)))) (by kernel_rfl) (by kernel_rfl) ?_
                      refine GmT.p' 28 51 (.bool (decide (((gt a0 x22).Worn) < ((gt a0 x21).Worn)))) (by kernel_rfl) (by kernel_rfl) ?_
                      refine GmT.done (by kernel_rfl) ?_
                      have e := someS h5
                      subst e
                      exact Qn.thenJ fun a ha => ⟨decide (((gt a0 x22).Worn) < ((gt a0 x21).Worn)), rfl, ha.keep [0, 3, 4, 5, 6, 7, 51] (by kernel_rfl), hI⟩
                  · rw [if_neg hb40] at h5
                    have hb40 : y39 = false := by simpa using hb40
                    refine GmT.keep [0, 3, 4, 5, 6, 7, 35] (S' := [(0, .slice A_a0 a0.length c_a0), (3, .slice A7 x6.length cp8), (4, .slice A10 x9.length cp11), (5, .int .i64 x12), (6, .int .i64 x21), (7, .int .i64 x22), (35, .bool false)]) (by simp only [hb40]; kernel_rfl) ?_
                    refine GmT.p' 13 36 (undef) (by kernel_rfl) (by kernel_rfl) ?_
                    refine GmT.p' 14 37 (undef) (by kernel_rfl) (by kernel_rfl) ?_
                    refine GmT.p' 15 38 (undef) (by kernel_rfl) (by kernel_rfl) ?_
                    refine GmT.p' 16 39 (undef) (by kernel_rfl) (by kernel_rfl) ?_
                    refine GmT.p' 17 40 (undef) (by kernel_rfl) (by kernel_rfl) ?_
                    refine GmT.p' 18 41 (undef) (by kernel_rfl) (by kernel_rfl) ?_
                    refine GmT.p' 19 42 (undef) (by kernel_rfl) (by kernel_rfl) ?_
                    refine GmT.p' 20 43 (undef) (by kernel_rfl) (by kernel_rfl) ?_
                    refine GmT.p' 21 44 (undef) (by kernel_rfl) (by kernel_rfl) ?_
                    refine GmT.p' 22 45 (undef) (by kernel_rfl) (by kernel_rfl) ?_
                    refine GmT.p' 23 46 (undef) (by kernel_rfl) (by kernel_rfl) ?_
                    refine GmT.p' 24 47 (undef) (by kernel_rfl) (by kernel_rfl) ?_
                    refine GmT.p' 25 48 (undef) (by kernel_rfl) (by kernel_rfl) ?_
                    refine GmT.p' 26 49 (undef) (by kernel_rfl) (by kernel_rfl) ?_
                    refine GmT.p' 27 50 (undef) (by kernel_rfl) (by kernel_rfl) ?_
                    refine GmT.p' 28 51 (.bool false) (by kernel_rfl) (by kernel_rfl) ?_
                    refine GmT.done (by kernel_rfl) ?_
                    have e := someS h5
                    subst e
                    exact Qn.thenJ fun a ha => ⟨false, rfl, ha.keep [0, 3, 4, 5, 6, 7, 51] (by kernel_rfl), hI⟩
                · rw [if_neg hb31] at h5
                  have hb31 : (!(gt x9 x22)) = false := by simpa using hb31
                  refine GmT.keep [0, 3, 4, 5, 6, 7, 28] (S' := [(0, .slice A_a0 a0.length c_a0), (3, .slice A7 x6.length cp8), (4, .slice A10 x9.length cp11), (5, .int .i64 x12), (6, .int .i64 x21), (7, .int .i64 x22), (28, .bool false)]) (by simp only [hb31]; kernel_rfl) ?_
                  refine GmT.p' 6 29 (undef) (by kernel_rfl) (by kernel_rfl) ?_
                  refine GmT.p' 7 30 (undef) (by kernel_rfl) (by kernel_rfl) ?_
                  refine GmT.p' 8 31 (undef) (by kernel_rfl) (by kernel_rfl) ?_
                  refine GmT.p' 9 32 (undef) (by kernel_rfl) (by kernel_rfl) ?_
                  refine GmT.p' 10 33 (undef) (by kernel_rfl) (by kernel_rfl) ?_
                  refine GmT.p' 11 34 (.bool false) (by kernel_rfl) (by kernel_rfl) ?_
                  refine GmT.p' 12 35 (.bool false) (by kernel_rfl) (by kernel_rfl) ?_
                  refine GmT.p' 13 36 (undef) (by kernel_rfl) (by kernel_rfl) ?_
                  refine GmT.p' 14 37 (undef) (by kernel_rfl) (by kernel_rfl) ?_
                  refine GmT.p' 15 38 (undef) (by kernel_rfl) (by kernel_rfl) ?_
                  refine GmT.p' 16 39 (undef) (by kernel_rfl) (by kernel_rfl) ?_
                  refine GmT.p' 17 40 (undef) (by kernel_rfl) (by kernel_rfl) ?_
                  refine GmT.p' 18 41 (undef) (by kernel_rfl) (by kernel_rfl) ?_
                  refine GmT.p' 19 42 (undef) (by kernel_rfl) (by kernel_rfl) ?_
                  refine GmT.p' 20 43 (undef) (by kernel_rfl) (by kernel_rfl) ?_
                  refine GmT.p' 21 44 (undef) (by kernel_rfl) (by kernel_rfl) ?_
                  refine GmT.p' 22 45 (undef) (by kernel_rfl) (by kernel_rfl) ?_
                  refine GmT.p' 23 46 (undef) (by kernel_rfl) (by kernel_rfl) ?_
                  refine GmT.p' 24 47 (undef) (by kernel_rfl) (by kernel_rfl) ?_
                  refine GmT.p' 25 48 (undef) (by kernel_rfl) (by kernel_rfl) ?_
                  refine GmT.p' 26 49 (undef) (by kernel_rfl) (by kernel_rfl) ?_
                  refine GmT.p' 27 50 (undef) (by kernel_rfl) (by kernel_rfl) ?_
                  refine GmT.p' 28 51 (.bool false) (by kernel_rfl) (by kernel_rfl) ?_
                  refine GmT.done (by kernel_rfl) ?_
                  have e := someS h5
                  subst e
                  exact Qn.thenJ fun a ha => ⟨false, rfl, ha.keep [0, 3, 4, 5, 6, 7, 51] (by kernel_rfl), hI⟩
              ·
                rintro a w ⟨x25, rfl, ha, hI⟩
                try dsimp only at h4
                refine CodT.of ?_ ha
                by_cases hb54 : x25 = true
                · rw [if_pos hb54] at h4
                  refine CodT.yes' (b := x25) (by kernel_rfl) hb54 ?_
                  refine CodT.regionL [0, 1] (by kernel_rfl) ?_
                  refine OpsT.pures (r := []) [0, 1] [0, 3, 4, 5, 6, 7] (S' := [(0, .slice A_a0 a0.length c_a0), (3, .slice A7 x6.length cp8), (4, .slice A10 x9.length cp11), (5, .int .i64 x12), (6, .int .i64 x22), (7, .int .i64 x22)]) (by kernel_rfl) ?_
                  refine OpsT.done ?_
                  refine Qn.block_normal ?_
                  have e := someS h4
                  subst e
                  exact Qn.thenJ fun a ha => ⟨x22, rfl, ha.keep [0, 3, 4, 5, 6, 7] (by kernel_rfl), hI⟩
                · rw [if_neg hb54] at h4
                  refine CodT.no' (b := x25) (by kernel_rfl) (by simpa using hb54) ?_
                  refine CodT.skip ?_
                  refine Qn.block_normal ?_
                  have e := someS h4
                  subst e
                  exact Qn.thenJ fun a ha => ⟨x21, rfl, ha.keep [0, 3, 4, 5, 6, 7] (by kernel_rfl), hI⟩
            ·
              rintro a w ⟨x24, rfl, ha, hI⟩
              try dsimp only at h3
              refine CodT.of ?_ ha
              refine CodT.regionL [0, 1, 2] (by kernel_rfl) ?_
              refine OpsT.pures (r := []) [0, 1, 2] [0, 3, 4, 5, 6, 7] (S' := [(0, .slice A_a0 a0.length c_a0), (3, .slice A7 x6.length cp8), (4, .slice A10 x9.length cp11), (5, .int .i64 x12), (6, .int .i64 x24), (7, .int .i64 (wi64 (x22 + 1)))]) (by kernel_rfl) ?_
              refine OpsT.done ?_
              exact Qn.thenJ fun a ha => ⟨k, Nat.lt_succ_self k, x24, wi64 (x22 + 1), h3, ha.keep [0, 3, 4, 5, 6, 7] (by kernel_rfl), hI⟩
          · rw [if_neg hb23] at h3
            refine CodT.no' (b := decide (x22 < (a0.length : Int))) (by kernel_rfl) (by simpa using hb23) ?_
            refine CodT.exit ?_
            refine Qn.exit_then ?_
            refine Qn.exit_then ?_
            refine Qn.block ?_
            have e := someS h3
            subst e
            exact Qn.thenJ fun a ha => ⟨x21, rfl, ha.keep [0, 3, 4, 5, 6] (by kernel_rfl), hI⟩
        ·
          rintro a w ⟨x20, rfl, ha, hI⟩
          try dsimp only at h2
          refine Qn.of ?_ ha
          refine Qn.then ?_
          refine CodT.seq ?_
          refine CodT.regionL [0, 1] (by kernel_rfl) ?_
          refine OpsT.pures (r := []) [0, 1] [0, 3, 4, 5, 6, 54] (S' := [(0, .slice A_a0 a0.length c_a0), (3, .slice A7 x6.length cp8), (4, .slice A10 x9.length cp11), (5, .int .i64 x12), (6, .int .i64 x20), (54, .bool (decide (x20 ≥ 0)))]) (by kernel_rfl) ?_
          refine OpsT.done ?_
          refine Qn.then ?_
          by_cases hb55 : (decide (x20 ≥ 0)) = true
          · rw [if_pos hb55] at h2
            refine CodT.yes' (b := decide (x20 ≥ 0)) (by kernel_rfl) hb55 ?_
            refine CodT.seq ?_
            refine CodT.regionL [0, 1, 2, 3] (by kernel_rfl) ?_
            refine OpsT.pures (r := [2, 3]) [0, 1] [0, 3, 4, 5, 6, 55, 56] (S' := [(0, .slice A_a0 a0.length c_a0), (3, .slice A7 x6.length cp8), (4, .slice A10 x9.length cp11), (5, .int .i64 x12), (6, .int .i64 x20), (55, .slice A10 x9.length cp11), (56, .int .i64 x20)]) (by kernel_rfl) ?_
            obtain ⟨hg56, h2⟩ := guardS h2
            obtain ⟨g57, hA58, hr59, hl60⟩ := ownS_get (hI.mono (pick2 _ _ _)) hg56.1 hg56.2
            refine OpsT.cons (Does.yi (Yl.indexSlice (d := 57) (T := 65) (cc := cp11) (k := .i64) (j := x20) (g := g57) (o := 0) (by kernel_rfl) Go.Proofs.Try.underlying65 ty4 hA58 hg56.1 hg56.2) hI ?_)
            have hI := hI.mono (pick2 _ _ _)
            refine OpsT.cons (Does.storeElem (T := 4) (j := x20) (k := 0) (v := .bool true) (vs := [.bool true]) true (by kernel_rfl) ty4 hA58 hI hg56.1 hg56.2 (by kernel_rfl) (by kernel_rfl) (by kernel_rfl) (by kernel_rfl) (by kernel_rfl) ?_)
            intro w hI
            refine OpsT.keep [0, 3, 4, 5, 6, 55, 56] (S' := [(0, .slice A_a0 a0.length c_a0), (3, .slice A7 x6.length cp8), (4, .slice A10 ((st x9 x20 true).length) cp11), (5, .int .i64 x12), (6, .int .i64 x20), (55, .slice A10 ((st x9 x20 true).length) cp11), (56, .int .i64 x20)]) (by simp only [st_length]; kernel_rfl) ?_
            refine OpsT.done ?_
            refine Qn.then ?_
            refine CodT.regionL [0, 1, 2, 3, 4] (by kernel_rfl) ?_
            refine OpsT.pures (r := [2, 3, 4]) [0, 1] [0, 4, 5, 58, 59] (S' := [(0, .slice A_a0 a0.length c_a0), (4, .slice A10 ((st x9 x20 true).length) cp11), (5, .int .i64 x12), (58, .slice A7 x6.length cp8), (59, .int .i64 x20)]) (by kernel_rfl) ?_
            refine OpsT.cons (Does.buildSlice (en := (cI .i64)) (d := 60) (n := 1) (T := 40) (ps := [(0, .int .i64 x20)]) ([x20] : List Int) (by kernel_rfl) Go.Proofs.Try.underlying40 ty3 (by kernel_rfl) (by kernel_rfl) (by kernel_rfl) (by kernel_rfl) (len_all (fun _ => rfl)) hI ?_)
            intro b61 w hI
            obtain ⟨hg62, h2⟩ := guardS h2
            have hI := hI.mono (pick3 _ _ _ _)
            refine OpsT.cons (Does.append (d := 61) (t := 40) (tx := 40) (ty := 40) (ys := x6) (zs := ([x20] : List Int)) (x := .slice (some ⟨b61, 0, none⟩) (([x20] : List Int).length) 1) (by kernel_rfl) Go.Proofs.Try.underlying40 ty3 (by kernel_rfl) hI (src_own Go.Proofs.Try.underlying40 (hI.mono (pick2 _ _ _)) (one_flat _ (fun _ => rfl))) (ownS_facts (hI.mono (pick2 _ _ _))).2.2 (by unfold LIM at hg62; omega) hg62 ?_)
            intro A63 cp64 w hI
            refine OpsT.pures (r := []) [4] [0, 3, 4, 5] (S' := [(0, .slice A_a0 a0.length c_a0), (3, .slice A63 ((x6 ++ ([x20] : List Int)).length) cp64), (4, .slice A10 ((st x9 x20 true).length) cp11), (5, .int .i64 x12)]) (by kernel_rfl) ?_
            refine OpsT.done ?_
            refine Qn.block_normal ?_
            have hI := hI.mono (pick2 _ _ _)
            have hI := hI.drop
            have e := someS h2
            subst e
            exact Qn.thenJ fun a ha => ⟨x6 ++ ([x20] : List Int), st x9 x20 true, A63, cp64, A10, cp11, rfl, ha.keep [0, 3, 4, 5] (by kernel_rfl), hI⟩
          · rw [if_neg hb55] at h2
            refine CodT.no' (b := decide (x20 ≥ 0)) (by kernel_rfl) (by simpa using hb55) ?_
            refine CodT.skip ?_
            refine Qn.block_normal ?_
            have e := someS h2
            subst e
            exact Qn.thenJ fun a ha => ⟨x6, x9, A7, cp8, A10, cp11, rfl, ha.keep [0, 3, 4, 5] (by kernel_rfl), hI⟩
      ·
        rintro a w ⟨x14, x17, A15, cp16, A18, cp19, rfl, ha, hI⟩
        try dsimp only at h1
        refine CodT.of ?_ ha
        refine CodT.regionL [0, 1, 2] (by kernel_rfl) ?_
        refine OpsT.pures (r := []) [0, 1, 2] [0, 3, 4, 5] (S' := [(0, .slice A_a0 a0.length c_a0), (3, .slice A15 x14.length cp16), (4, .slice A18 x17.length cp19), (5, .int .i64 (wi64 (x12 + 1)))]) (by kernel_rfl) ?_
        refine OpsT.done ?_
        exact Qn.thenJ fun a ha => ⟨k, Nat.lt_succ_self k, x14, x17, wi64 (x12 + 1), A15, cp16, A18, cp19, h1, ha.keep [0, 3, 4, 5] (by kernel_rfl), hI⟩
    · rw [if_neg hb13] at h1
      refine CodT.no' (b := decide (x12 < (a0.length : Int))) (by kernel_rfl) (by simpa using hb13) ?_
      refine CodT.exit ?_
      refine Qn.exit_then ?_
      refine Qn.exit_then ?_
      refine Qn.block ?_
      have hI := hI.mono (pick2 _ _ _)
      have hI := hI.drop
      have e := someS h1
      subst e
      exact Qn.thenJ fun a ha => ⟨x6, A7, cp8, rfl, ha.keep [3] (by kernel_rfl), hI⟩
  ·
    rintro a w ⟨x3, A4, cp5, rfl, ha, hI⟩
    try dsimp only at h0
    refine Qn.of ?_ ha
    refine Qn.then ?_
    refine CodT.seq ?_
    refine CodT.regionL [0, 1] (by kernel_rfl) ?_
    refine OpsT.pures (r := []) [0, 1] [2] (S' := [(2, .slice A4 x3.length cp5)]) (by kernel_rfl) ?_
    refine OpsT.done ?_
    refine Qn.then ?_
    refine CodT.ret ?_
    have e := someS h0
    subst e
    refine Qn.keep [2] (S' := [(2, .slice A4 x3.length cp5)]) (by kernel_rfl) ?_
    exact post_ret (v := .slice A4 x3.length cp5) (fun a ha => RunRes.run (vs := [.slice A4 x3.length cp5]) (.tmp (t := 2) (by kernel_rfl) .nil) ha (by kernel_rfl)) ⟨A4, cp5, rfl, hI⟩
set_option maxRecDepth 100000 in
set_option maxHeartbeats 4000000 in
/-- cenotaph/cenotaphref05.Row -/
theorem c27 (w0 w : World) (Z : Hp) (A : HP)  (hI : Inv w0 Z w A) (A_a0 : Option Addr) (c_a0 : Nat) (a0 : (List Int)) (hr_a0 : RdS Z (cI .i64) 1 A_a0 c_a0 a0) (A_a1 : Option Addr) (c_a1 : Nat) (a1 : (List Int)) (hr_a1 : RdS Z (cI .i64) 1 A_a1 c_a1 a1) (r : Bool) (h0 : ref05_Row a0 a1 = some r) :
    Calls prog 27 #[.slice A_a0 a0.length c_a0, .slice A_a1 a1.length c_a1] w (fun e w' => e = .returned (.bool r) ∧ Inv w0 Z w' A) := by
  refine calls_intro (args := [.slice A_a0 a0.length c_a0, .slice A_a1 a1.length c_a1]) (fn := Go.Proofs.Try.f27) 26 Go.Proofs.Try.func27 (by rfl) Go.Proofs.Try.ntmps27 (by kernel_rfl) ?_
  unfold ref05_Row at h0
  refine CodT.seq ?_
  refine CodT.regionL [0] (by kernel_rfl) ?_
  refine OpsT.pures (r := []) [0] [0, 1] (S' := [(0, .slice A_a0 a0.length c_a0), (1, .slice A_a1 a1.length c_a1)]) (by kernel_rfl) ?_
  refine OpsT.done ?_
  refine Qn.then ?_
  refine CodT.seq ?_
  refine CodT.seq ?_
  refine CodT.regionL [0, 1, 2, 3, 4] (by kernel_rfl) ?_
  refine OpsT.pures (r := []) [0, 1, 2, 3, 4] [0, 1, 10] (S' := [(0, .slice A_a0 a0.length c_a0), (1, .slice A_a1 a1.length c_a1), (10, .bool ((a0.length : Int) != (a1.length : Int)))]) (by kernel_rfl) ?_
  refine OpsT.done ?_
  refine Qn.then ?_
  by_cases hb1 : ((a0.length : Int) != (a1.length : Int)) = true
  · rw [if_pos hb1] at h0
    refine CodT.yes' (b := (a0.length : Int) != (a1.length : Int)) (by kernel_rfl) hb1 ?_
    refine CodT.seq ?_
    refine CodT.regionL [0] (by kernel_rfl) ?_
    refine OpsT.pures (r := []) [0] [4] (S' := [(4, .bool false)]) (by kernel_rfl) ?_
    refine OpsT.done ?_
    refine Qn.then ?_
    refine CodT.ret ?_
    refine Qn.ret_then ?_
    have e := someS h0
    subst e
    refine Qn.keep [4] (S' := [(4, .bool false)]) (by kernel_rfl) ?_
    exact post_ret (v := .bool false) (fun a ha => RunRes.run (vs := [.bool false]) (.tmp (t := 4) (by kernel_rfl) .nil) ha (by kernel_rfl)) ⟨rfl, hI⟩
  · rw [if_neg hb1] at h0
    refine CodT.no' (b := (a0.length : Int) != (a1.length : Int)) (by kernel_rfl) (by simpa using hb1) ?_
    refine CodT.skip ?_
    refine Qn.then ?_
    refine CodT.seq ?_
    refine CodT.seq ?_
    refine CodT.regionL [0] (by kernel_rfl) ?_
    refine OpsT.pures (r := []) [0] [0, 1, 5] (S' := [(0, .slice A_a0 a0.length c_a0), (1, .slice A_a1 a1.length c_a1), (5, .int .i64 0)]) (by kernel_rfl) ?_
    refine OpsT.done ?_
    refine Qn.then ?_
    obtain ⟨r1, h1, h0⟩ := bindS h0
    refine CodT.meet1 (fun a w => .inr () = r1 ∧ Fr 26 [] a ∧ Inv w0 Z w A) ?_ ?_
    ·
      refine CodT.block ?_
      refine (fun a ha => wp_loopN (fun k a w => ∃ (x2 : Int), ref05_Row.l0 a0 a1 k x2 = some r1 ∧ Fr 26 [(0, .slice A_a0 a0.length c_a0), (1, .slice A_a1 a1.length c_a1), (5, .int .i64 x2)] a ∧ Inv w0 Z w A) ?_ FU a w ⟨0, h1, ha.keep [0, 1, 5] (by kernel_rfl), hI⟩)
      clear h1 hI
      rintro k a w ⟨x2, h1, ha, hI⟩
      rcases k with _ | k
      · cases h1
      simp only [ref05_Row.l0] at h1
      refine CodT.of ?_ ha
      refine CodT.seq ?_
      refine CodT.seq ?_
      refine CodT.regionL [0, 1, 2, 3] (by kernel_rfl) ?_
      refine OpsT.pures (r := []) [0, 1, 2, 3] [0, 1, 5, 14] (S' := [(0, .slice A_a0 a0.length c_a0), (1, .slice A_a1 a1.length c_a1), (5, .int .i64 x2), (14, .bool (decide (x2 < (a0.length : Int))))]) (by kernel_rfl) ?_
      refine OpsT.done ?_
      refine Qn.then ?_
      by_cases hb3 : (decide (x2 < (a0.length : Int))) = true
      · rw [if_pos hb3] at h1
        refine CodT.yes' (b := decide (x2 < (a0.length : Int))) (by kernel_rfl) hb3 ?_
        refine CodT.skip ?_
        refine Qn.then ?_
        refine CodT.seq ?_
        refine CodT.block ?_
        refine CodT.seq ?_
        refine CodT.drawI (n := 9) [] (by kernel_rfl) (by kernel_rfl) hI ?_
        intro w hI
        refine GmT.p' 0 17 (.slice A_a0 a0.length c_a0) (by kernel_rfl) (by kernel_rfl) ?_
        refine GmT.p' 1 18 (.int .i64 x2) (by kernel_rfl) (by kernel_rfl) ?_
        refine GmT.p' 4 21 (.slice A_a1 a1.length c_a1) (by kernel_rfl) (by kernel_rfl) ?_
        refine GmT.p' 5 22 (.int .i64 x2) (by kernel_rfl) (by kernel_rfl) ?_
        obtain ⟨hg4, h1⟩ := guardS h1
        obtain ⟨g5, o9, hA6, hr7, hl8⟩ := RdS.get hr_a0 hg4.1 hg4.2
        refine GmT.r (i := 2) 2 (by kernel_rfl) (by kernel_rfl) (Yl.indexSlice (d := 19) (T := 40) (cc := c_a0) (k := .i64) (j := x2) (g := g5) (o := o9) (by kernel_rfl) Go.Proofs.Try.underlying40 ty3 hA6 hg4.1 hg4.2) hI ?_
        refine GmT.r (i := 3) 2 (by kernel_rfl) (by kernel_rfl) (Yl.load (d := 20) (T := 3) (v := .int .i64 (gt a0 x2)) (by kernel_rfl) (ldR ty3 (v := .int .i64 (gt a0 x2)) 0 (fun w hC => hr7 w0 w _ hC) (by kernel_rfl))) hI ?_
        obtain ⟨hg10, h1⟩ := guardS h1
        obtain ⟨g11, o15, hA12, hr13, hl14⟩ := RdS.get hr_a1 hg10.1 hg10.2
        refine GmT.r (i := 6) 2 (by kernel_rfl) (by kernel_rfl) (Yl.indexSlice (d := 23) (T := 40) (cc := c_a1) (k := .i64) (j := x2) (g := g11) (o := o15) (by kernel_rfl) Go.Proofs.Try.underlying40 ty3 hA12 hg10.1 hg10.2) hI ?_
        refine GmT.r (i := 7) 2 (by kernel_rfl) (by kernel_rfl) (Yl.load (d := 24) (T := 3) (v := .int .i64 (gt a1 x2)) (by kernel_rfl) (ldR ty3 (v := .int .i64 (gt a1 x2)) 0 (fun w hC => hr13 w0 w _ hC) (by kernel_rfl))) hI ?_
        refine GmT.p' 8 25 (.bool ((gt a0 x2) != (gt a1 x2))) (by kernel_rfl) (by kernel_rfl) ?_
        refine GmT.done (by kernel_rfl) ?_
        refine Qn.then ?_
        by_cases hb16 : ((gt a0 x2) != (gt a1 x2)) = true
        · rw [if_pos hb16] at h1
          refine CodT.yes' (b := (gt a0 x2) != (gt a1 x2)) (by kernel_rfl) hb16 ?_
          refine CodT.seq ?_
          refine CodT.regionL [0] (by kernel_rfl) ?_
          refine OpsT.pures (r := []) [0] [4] (S' := [(4, .bool false)]) (by kernel_rfl) ?_
          refine OpsT.done ?_
          refine Qn.then ?_
          refine CodT.ret ?_
          refine Qn.block_ret ?_
          refine Qn.ret_then ?_
          refine Qn.ret_then ?_
          refine Qn.block_ret ?_
          refine Qn.ret_then ?_
          refine Qn.ret_then ?_
          have e := someS h1
          subst e
          try dsimp only at h0
          have e := someS h0
          subst e
          refine Qn.keep [4] (S' := [(4, .bool false)]) (by kernel_rfl) ?_
          exact post_ret (v := .bool false) (fun a ha => RunRes.run (vs := [.bool false]) (.tmp (t := 4) (by kernel_rfl) .nil) ha (by kernel_rfl)) ⟨rfl, hI⟩
        · rw [if_neg hb16] at h1
          refine CodT.no' (b := (gt a0 x2) != (gt a1 x2)) (by kernel_rfl) (by simpa using hb16) ?_
          refine CodT.skip ?_
          refine Qn.block_normal ?_
          refine Qn.then ?_
          refine CodT.regionL [0, 1, 2] (by kernel_rfl) ?_
          refine OpsT.pures (r := []) [0, 1, 2] [0, 1, 5] (S' := [(0, .slice A_a0 a0.length c_a0), (1, .slice A_a1 a1.length c_a1), (5, .int .i64 (wi64 (x2 + 1)))]) (by kernel_rfl) ?_
          refine OpsT.done ?_
          exact Qn.thenJ fun a ha => ⟨k, Nat.lt_succ_self k, wi64 (x2 + 1), h1, ha.keep [0, 1, 5] (by kernel_rfl), hI⟩
      · rw [if_neg hb3] at h1
        refine CodT.no' (b := decide (x2 < (a0.length : Int))) (by kernel_rfl) (by simpa using hb3) ?_
        refine CodT.exit ?_
        refine Qn.exit_then ?_
        refine Qn.exit_then ?_
        refine Qn.block ?_
        have e := someS h1
        subst e
        exact Qn.thenJ fun a ha => ⟨rfl, ha.keep [] (by kernel_rfl), hI⟩
    ·
      rintro a w ⟨rfl, ha, hI⟩
      try dsimp only at h0
      refine Qn.of ?_ ha
      refine Qn.then ?_
      refine CodT.seq ?_
      refine CodT.regionL [0] (by kernel_rfl) ?_
      refine OpsT.pures (r := []) [0] [4] (S' := [(4, .bool true)]) (by kernel_rfl) ?_
      refine OpsT.done ?_
      refine Qn.then ?_
      refine CodT.ret ?_
      have e := someS h0
      subst e
      refine Qn.keep [4] (S' := [(4, .bool true)]) (by kernel_rfl) ?_
      exact post_ret (v := .bool true) (fun a ha => RunRes.run (vs := [.bool true]) (.tmp (t := 4) (by kernel_rfl) .nil) ha (by kernel_rfl)) ⟨rfl, hI⟩
set_option maxRecDepth 100000 in
set_option maxHeartbeats 4000000 in
/-- cenotaph/cenotaphref17.Pick -/
theorem c31 (w0 w : World) (Z : Hp) (A : HP)  (hI : Inv w0 Z w A) (A_a0 : Option Addr) (c_a0 : Nat) (a0 : (List Ref17Use)) (hr_a0 : RdS Z c_Ref17Use 5 A_a0 c_a0 a0) (r : Int) (h0 : ref17_Pick a0 = some r) :
    Calls prog 31 #[.slice A_a0 a0.length c_a0] w (fun e w' => e = .returned (.int .i64 r) ∧ Inv w0 Z w' A) := by
  refine calls_intro (args := [.slice A_a0 a0.length c_a0]) (fn := Go.Proofs.Try.f31) 12 Go.Proofs.Try.func31 (by rfl) Go.Proofs.Try.ntmps31 (by kernel_rfl) ?_
  unfold ref17_Pick at h0
  refine CodT.seq ?_
  refine CodT.regionL [0] (by kernel_rfl) ?_
  refine OpsT.pures (r := []) [0] [0] (S' := [(0, .slice A_a0 a0.length c_a0)]) (by kernel_rfl) ?_
  refine OpsT.done ?_
  refine Qn.then ?_
  refine CodT.seq ?_
  refine CodT.regionL [0, 1, 2] (by kernel_rfl) ?_
  refine OpsT.pures (r := [1, 2]) [0] [4] (S' := [(4, .slice A_a0 a0.length c_a0)]) (by kernel_rfl) ?_
  obtain ⟨y2, hc1, h0⟩ := bindS h0
  try dsimp only at h0
  refine OpsT.cons (Does.call (d := some 5) (n := 29) (vs := [.slice A_a0 a0.length c_a0]) (by kernel_rfl) en29 (c29 w0 w _ _ hI A_a0 c_a0 a0 hr_a0 _ hc1) ?_)
  rintro e w ⟨A3, cp4, rfl, hI⟩
  refine ⟨_, rfl, ?_⟩
  refine OpsT.pures (r := []) [2] [3] (S' := [(3, .slice A3 y2.length cp4)]) (by kernel_rfl) ?_
  refine OpsT.done ?_
  refine Qn.then ?_
  refine CodT.seq ?_
  refine CodT.seq ?_
  refine CodT.regionL [0, 1, 2] (by kernel_rfl) ?_
  refine OpsT.pures (r := []) [0, 1, 2] [3, 8] (S' := [(3, .slice A3 y2.length cp4), (8, .bool ((y2.length : Int) == 0))]) (by kernel_rfl) ?_
  refine OpsT.done ?_
  refine Qn.then ?_
  by_cases hb5 : ((y2.length : Int) == 0) = true
  · rw [if_pos hb5] at h0
    refine CodT.yes' (b := (y2.length : Int) == 0) (by kernel_rfl) hb5 ?_
    refine CodT.seq ?_
    refine CodT.regionL [0] (by kernel_rfl) ?_
    refine OpsT.pures (r := []) [0] [2] (S' := [(2, .int .i64 (-1))]) (by kernel_rfl) ?_
    refine OpsT.done ?_
    refine Qn.then ?_
    refine CodT.ret ?_
    refine Qn.ret_then ?_
    have hI := hI.drop
    have e := someS h0
    subst e
    refine Qn.keep [2] (S' := [(2, .int .i64 (-1))]) (by kernel_rfl) ?_
    exact post_ret (v := .int .i64 (-1)) (fun a ha => RunRes.run (vs := [.int .i64 (-1)]) (.tmp (t := 2) (by kernel_rfl) .nil) ha (by kernel_rfl)) ⟨rfl, hI⟩
  · rw [if_neg hb5] at h0
    refine CodT.no' (b := (y2.length : Int) == 0) (by kernel_rfl) (by simpa using hb5) ?_
    refine CodT.skip ?_
    refine Qn.then ?_
    refine CodT.seq ?_
    refine CodT.regionL [0, 1, 2, 3] (by kernel_rfl) ?_
    refine OpsT.pures (r := [1, 2, 3]) [0] [9] (S' := [(9, .slice A3 y2.length cp4)]) (by kernel_rfl) ?_
    obtain ⟨hg6, h0⟩ := guardS h0
    obtain ⟨g7, hA8, hr9, hl10⟩ := ownS_get hI hg6.1 hg6.2
    refine OpsT.cons (Does.yi (Yl.indexSlice (d := 10) (T := 40) (cc := cp4) (k := .i64) (j := 0) (g := g7) (o := 0) (by kernel_rfl) Go.Proofs.Try.underlying40 ty3 hA8 hg6.1 hg6.2) hI ?_)
    refine OpsT.cons (Does.yi (Yl.load (d := 11) (T := 3) (v := .int .i64 (gt y2 0)) (by kernel_rfl) (ldR ty3 (v := .int .i64 (gt y2 0)) 0 (fun w hC => hr9 w0 w _ hC) (by kernel_rfl))) hI ?_)
    refine OpsT.pures (r := []) [3] [2] (S' := [(2, .int .i64 (gt y2 0))]) (by kernel_rfl) ?_
    refine OpsT.done ?_
    refine Qn.then ?_
    refine CodT.ret ?_
    have hI := hI.drop
    have e := someS h0
    subst e
    refine Qn.keep [2] (S' := [(2, .int .i64 (gt y2 0))]) (by kernel_rfl) ?_
    exact post_ret (v := .int .i64 (gt y2 0)) (fun a ha => RunRes.run (vs := [.int .i64 (gt y2 0)]) (.tmp (t := 2) (by kernel_rfl) .nil) ha (by kernel_rfl)) ⟨rfl, hI⟩
set_option maxRecDepth 100000 in
set_option maxHeartbeats 4000000 in
/-- cenotaph/cenotaphref17.Victim -/
theorem c33 (w0 w : World) (Z : Hp) (A : HP)  (hI : Inv w0 Z w A) (A_a0 : Option Addr) (c_a0 : Nat) (a0 : (List Ref17Use)) (hr_a0 : RdS Z c_Ref17Use 5 A_a0 c_a0 a0) (a1 : Int) (r : Int) (h0 : ref17_Victim a0 a1 = some r) :
    Calls prog 33 #[.slice A_a0 a0.length c_a0, .int .i64 a1] w (fun e w' => e = .returned (.int .i64 r) ∧ Inv w0 Z w' A) := by
  refine calls_intro (args := [.slice A_a0 a0.length c_a0, .int .i64 a1]) (fn := Go.Proofs.Try.f33) 69 Go.Proofs.Try.func33 (by rfl) Go.Proofs.Try.ntmps33 (by kernel_rfl) ?_
  unfold ref17_Victim at h0
  refine CodT.seq ?_
  refine CodT.regionL [0] (by kernel_rfl) ?_
  refine OpsT.pures (r := []) [0] [0, 1] (S' := [(0, .slice A_a0 a0.length c_a0), (1, .int .i64 a1)]) (by kernel_rfl) ?_
  refine OpsT.done ?_
  refine Qn.then ?_
  refine CodT.seq ?_
  refine CodT.regionL [0] (by kernel_rfl) ?_
  refine OpsT.pures (r := []) [0] [0, 1, 5] (S' := [(0, .slice A_a0 a0.length c_a0), (1, .int .i64 a1), (5, .int .i64 (-1))]) (by kernel_rfl) ?_
  refine OpsT.done ?_
  refine Qn.then ?_
  refine CodT.seq ?_
  refine CodT.seq ?_
  refine CodT.regionL [0] (by kernel_rfl) ?_
  refine OpsT.pures (r := []) [0] [0, 1, 5, 6] (S' := [(0, .slice A_a0 a0.length c_a0), (1, .int .i64 a1), (5, .int .i64 (-1)), (6, .int .i64 0)]) (by kernel_rfl) ?_
  refine OpsT.done ?_
  refine Qn.then ?_
  obtain ⟨r1, h1, h0⟩ := bindS h0
  refine CodT.meet1 (fun a w => ∃ (x1 : Int), x1 = r1 ∧ Fr 69 [(5, .int .i64 x1)] a ∧ Inv w0 Z w A) ?_ ?_
  ·
    refine CodT.block ?_
    refine (fun a ha => wp_loopN (fun k a w => ∃ (x2 : Int) (x3 : Int), ref17_Victim.l0 a0 a1 k x2 x3 = some r1 ∧ Fr 69 [(0, .slice A_a0 a0.length c_a0), (1, .int .i64 a1), (5, .int .i64 x2), (6, .int .i64 x3)] a ∧ Inv w0 Z w A) ?_ FU a w ⟨-1, 0, h1, ha.keep [0, 1, 5, 6] (by kernel_rfl), hI⟩)
    clear h1 hI
    rintro k a w ⟨x2, x3, h1, ha, hI⟩
    rcases k with _ | k
    · cases h1
    simp only [ref17_Victim.l0] at h1
    refine CodT.of ?_ ha
    refine CodT.seq ?_
    refine CodT.seq ?_
    refine CodT.regionL [0, 1, 2, 3] (by kernel_rfl) ?_
    refine OpsT.pures (r := []) [0, 1, 2, 3] [0, 1, 5, 6, 11] (S' := [(0, .slice A_a0 a0.length c_a0), (1, .int .i64 a1), (5, .int .i64 x2), (6, .int .i64 x3), (11, .bool (decide (x3 < (a0.length : Int))))]) (by kernel_rfl) ?_
    refine OpsT.done ?_
    refine Qn.then ?_
    by_cases hb4 : (decide (x3 < (a0.length : Int))) = true
    · rw [if_pos hb4] at h1
      refine CodT.yes' (b := decide (x3 < (a0.length : Int))) (by kernel_rfl) hb4 ?_
      refine CodT.skip ?_
      refine Qn.then ?_
      obtain ⟨r2, h2, h1⟩ := bindS h1
      refine CodT.meet (fun a w => ∃ (x5 : Int), x5 = r2 ∧ Fr 69 [(0, .slice A_a0 a0.length c_a0), (1, .int .i64 a1), (5, .int .i64 x5), (6, .int .i64 x3)] a ∧ Inv w0 Z w A) ?_ ?_
      ·
        refine CodT.block ?_
        refine CodT.seq ?_
        refine CodT.regionL [0, 1, 2, 3, 4, 5] (by kernel_rfl) ?_
        refine OpsT.pures (r := [2, 3, 4, 5]) [0, 1] [0, 1, 5, 6, 14, 15] (S' := [(0, .slice A_a0 a0.length c_a0), (1, .int .i64 a1), (5, .int .i64 x2), (6, .int .i64 x3), (14, .slice A_a0 a0.length c_a0), (15, .int .i64 x3)]) (by kernel_rfl) ?_
        obtain ⟨hg6, h2⟩ := guardS h2
        obtain ⟨g7, o11, hA8, hr9, hl10⟩ := RdS.get hr_a0 hg6.1 hg6.2
        refine OpsT.cons (Does.yi (Yl.indexSlice (d := 16) (T := 37) (cc := c_a0) (k := .i64) (j := x3) (g := g7) (o := o11) (by kernel_rfl) Go.Proofs.Try.underlying37 ty61 hA8 hg6.1 hg6.2) hI ?_)
        refine OpsT.cons (Does.yi (Yl.load (d := 17) (T := 61) (v := .agg (c_Ref17Use (gt a0 x3)).toArray) (by kernel_rfl) (ldRN ty61 (cs := c_Ref17Use (gt a0 x3)) 0 (fun w hC => hr9 w0 w _ hC) hl10 (whole _ _ hl10))) hI ?_)
        refine OpsT.cons (Does.allocL (d := 7) (T := 61) (c_Ref17Use (Ref17Use.mk 0 0 0 false false)) (by kernel_rfl) ty61 hI (by kernel_rfl) ?_)
        intro b12 w hI
        refine OpsT.cons (Does.storeLit (T := 61) (b := b12) (o := 0) (v := .agg (c_Ref17Use (gt a0 x3)).toArray) (l := c_Ref17Use (Ref17Use.mk 0 0 0 false false)) (vs := c_Ref17Use (gt a0 x3)) (L' := c_Ref17Use (gt a0 x3)) (by kernel_rfl) ty61 hI (by kernel_rfl) (by kernel_rfl) (by kernel_rfl) (by kernel_rfl) (by kernel_rfl) ?_)
        intro w hI
        refine OpsT.done ?_
        refine Qn.then ?_
        refine CodT.seq ?_
        obtain ⟨r3, h3, h2⟩ := bindS h2
        refine CodT.meet (fun a w => ∃ (x13 : Bool), x13 = r3 ∧ Fr 69 [(0, .slice A_a0 a0.length c_a0), (1, .int .i64 a1), (5, .int .i64 x2), (6, .int .i64 x3), (7, .pointer (some ⟨b12, 0, none⟩)), (34, .bool x13)] a ∧ Inv w0 Z w (star (pt b12 (.cells (c_Ref17Use (gt a0 x3)).toArray 61 (0, 0))) A)) ?_ ?_
        ·
          refine CodT.regionL [0, 1, 2, 3, 4, 5, 6, 7, 8, 9, 10, 11, 12, 13, 14, 15, 16] (by kernel_rfl) ?_
          refine OpsT.pures (r := [1, 2, 3, 4, 5, 6, 7, 8, 9, 10, 11, 12, 13, 14, 15, 16]) [0] [0, 1, 5, 6, 7, 18] (S' := [(0, .slice A_a0 a0.length c_a0), (1, .int .i64 a1), (5, .int .i64 x2), (6, .int .i64 x3), (7, .pointer (some ⟨b12, 0, none⟩)), (18, .pointer (some ⟨b12, 3, none⟩))]) (by kernel_rfl) ?_
          refine OpsT.cons (Does.yi (Yl.load (d := 19) (T := 4) (v := .bool ((gt a0 x3).Bad)) (by kernel_rfl) (ldB ty4 (l := c_Ref17Use (gt a0 x3)) (o := 3) (v := .bool ((gt a0 x3).Bad)) (ent_refl _) (by kernel_rfl))) hI ?_)
          refine OpsT.pures (r := [3, 4, 5, 6, 7, 8, 9, 10, 11, 12, 13, 14, 15, 16]) [2] [0, 1, 5, 6, 7, 20] (S' := [(0, .slice A_a0 a0.length c_a0), (1, .int .i64 a1), (5, .int .i64 x2), (6, .int .i64 x3), (7, .pointer (some ⟨b12, 0, none⟩)), (20, .bool ((gt a0 x3).Bad))]) (by kernel_rfl) ?_
          by_cases hb14 : ((gt a0 x3).Bad) = true
          · rw [if_pos hb14] at h3
            refine OpsT.keep [0, 1, 5, 6, 7, 20] (S' := [(0, .slice A_a0 a0.length c_a0), (1, .int .i64 a1), (5, .int .i64 x2), (6, .int .i64 x3), (7, .pointer (some ⟨b12, 0, none⟩)), (20, .bool true)]) (by simp only [hb14]; kernel_rfl) ?_
            refine OpsT.pures (r := []) [3, 4, 5, 6, 7, 8, 9, 10, 11, 12, 13, 14, 15, 16] [0, 1, 5, 6, 7, 34] (S' := [(0, .slice A_a0 a0.length c_a0), (1, .int .i64 a1), (5, .int .i64 x2), (6, .int .i64 x3), (7, .pointer (some ⟨b12, 0, none⟩)), (34, .bool true)]) (by kernel_rfl) ?_
            refine OpsT.done ?_
            have e := someS h3
            subst e
            exact Qn.thenJ fun a ha => ⟨true, rfl, ha.keep [0, 1, 5, 6, 7, 34] (by kernel_rfl), hI⟩
          · rw [if_neg hb14] at h3
            have hb14 : ((gt a0 x3).Bad) = false := by simpa using hb14
            refine OpsT.keep [0, 1, 5, 6, 7, 20] (S' := [(0, .slice A_a0 a0.length c_a0), (1, .int .i64 a1), (5, .int .i64 x2), (6, .int .i64 x3), (7, .pointer (some ⟨b12, 0, none⟩)), (20, .bool false)]) (by simp only [hb14]; kernel_rfl) ?_
            refine OpsT.pures (r := [4, 5, 6, 7, 8, 9, 10, 11, 12, 13, 14, 15, 16]) [3] [0, 1, 5, 6, 7, 20, 21] (S' := [(0, .slice A_a0 a0.length c_a0), (1, .int .i64 a1), (5, .int .i64 x2), (6, .int .i64 x3), (7, .pointer (some ⟨b12, 0, none⟩)), (20, .bool false), (21, .pointer (some ⟨b12, 4, none⟩))]) (by kernel_rfl) ?_
            refine OpsT.cons (Does.yi (Yl.load (d := 22) (T := 4) (v := .bool ((gt a0 x3).Keep)) (by kernel_rfl) (ldB ty4 (l := c_Ref17Use (gt a0 x3)) (o := 4) (v := .bool ((gt a0 x3).Keep)) (ent_refl _) (by kernel_rfl))) hI ?_)
            refine OpsT.pures (r := [7, 8, 9, 10, 11, 12, 13, 14, 15, 16]) [5, 6] [0, 1, 5, 6, 7, 24] (S' := [(0, .slice A_a0 a0.length c_a0), (1, .int .i64 a1), (5, .int .i64 x2), (6, .int .i64 x3), (7, .pointer (some ⟨b12, 0, none⟩)), (24, .bool ((gt a0 x3).Keep))]) (by kernel_rfl) ?_
            by_cases hb15 : ((gt a0 x3).Keep) = true
            · rw [if_pos hb15] at h3
              refine OpsT.keep [0, 1, 5, 6, 7, 24] (S' := [(0, .slice A_a0 a0.length c_a0), (1, .int .i64 a1), (5, .int .i64 x2), (6, .int .i64 x3), (7, .pointer (some ⟨b12, 0, none⟩)), (24, .bool true)]) (by simp only [hb15]; kernel_rfl) ?_
              refine OpsT.pures (r := []) [7, 8, 9, 10, 11, 12, 13, 14, 15, 16] [0, 1, 5, 6, 7, 34] (S' := [(0, .slice A_a0 a0.length c_a0), (1, .int .i64 a1), (5, .int .i64 x2), (6, .int .i64 x3), (7, .pointer (some ⟨b12, 0, none⟩)), (34, .bool true)]) (by kernel_rfl) ?_
              refine OpsT.done ?_
              have e := someS h3
              subst e
              exact Qn.thenJ fun a ha => ⟨true, rfl, ha.keep [0, 1, 5, 6, 7, 34] (by kernel_rfl), hI⟩
            · rw [if_neg hb15] at h3
              have hb15 : ((gt a0 x3).Keep) = false := by simpa using hb15
              refine OpsT.keep [0, 1, 5, 6, 7, 24] (S' := [(0, .slice A_a0 a0.length c_a0), (1, .int .i64 a1), (5, .int .i64 x2), (6, .int .i64 x3), (7, .pointer (some ⟨b12, 0, none⟩)), (24, .bool false)]) (by simp only [hb15]; kernel_rfl) ?_
              refine OpsT.pures (r := [8, 9, 10, 11, 12, 13, 14, 15, 16]) [7] [0, 1, 5, 6, 7, 24, 25] (S' := [(0, .slice A_a0 a0.length c_a0), (1, .int .i64 a1), (5, .int .i64 x2), (6, .int .i64 x3), (7, .pointer (some ⟨b12, 0, none⟩)), (24, .bool false), (25, .pointer (some ⟨b12, 1, none⟩))]) (by kernel_rfl) ?_
              refine OpsT.cons (Does.yi (Yl.load (d := 26) (T := 3) (v := .int .i64 ((gt a0 x3).Live)) (by kernel_rfl) (ldB ty3 (l := c_Ref17Use (gt a0 x3)) (o := 1) (v := .int .i64 ((gt a0 x3).Live)) (ent_refl _) (by kernel_rfl))) hI ?_)
              refine OpsT.pures (r := [12, 13, 14, 15, 16]) [9, 10, 11] [0, 1, 5, 6, 7, 29] (S' := [(0, .slice A_a0 a0.length c_a0), (1, .int .i64 a1), (5, .int .i64 x2), (6, .int .i64 x3), (7, .pointer (some ⟨b12, 0, none⟩)), (29, .bool (decide (((gt a0 x3).Live) ≤ 0)))]) (by kernel_rfl) ?_
              by_cases hb16 : (decide (((gt a0 x3).Live) ≤ 0)) = true
              · rw [if_pos hb16] at h3
                refine OpsT.keep [0, 1, 5, 6, 7, 29] (S' := [(0, .slice A_a0 a0.length c_a0), (1, .int .i64 a1), (5, .int .i64 x2), (6, .int .i64 x3), (7, .pointer (some ⟨b12, 0, none⟩)), (29, .bool true)]) (by simp only [hb16]; kernel_rfl) ?_
                refine OpsT.pures (r := []) [12, 13, 14, 15, 16] [0, 1, 5, 6, 7, 34] (S' := [(0, .slice A_a0 a0.length c_a0), (1, .int .i64 a1), (5, .int .i64 x2), (6, .int .i64 x3), (7, .pointer (some ⟨b12, 0, none⟩)), (34, .bool true)]) (by kernel_rfl) ?_
                refine OpsT.done ?_
                have e := someS h3
                subst e
                exact Qn.thenJ fun a ha => ⟨true, rfl, ha.keep [0, 1, 5, 6, 7, 34] (by kernel_rfl), hI⟩
              · rw [if_neg hb16] at h3
                have hb16 : (decide (((gt a0 x3).Live) ≤ 0)) = false := by simpa using hb16
                refine OpsT.keep [0, 1, 5, 6, 7, 29] (S' := [(0, .slice A_a0 a0.length c_a0), (1, .int .i64 a1), (5, .int .i64 x2), (6, .int .i64 x3), (7, .pointer (some ⟨b12, 0, none⟩)), (29, .bool false)]) (by simp only [hb16]; kernel_rfl) ?_
                refine OpsT.pures (r := [13, 14, 15, 16]) [12] [0, 1, 5, 6, 7, 29, 30] (S' := [(0, .slice A_a0 a0.length c_a0), (1, .int .i64 a1), (5, .int .i64 x2), (6, .int .i64 x3), (7, .pointer (some ⟨b12, 0, none⟩)), (29, .bool false), (30, .pointer (some ⟨b12, 1, none⟩))]) (by kernel_rfl) ?_
                refine OpsT.cons (Does.yi (Yl.load (d := 31) (T := 3) (v := .int .i64 ((gt a0 x3).Live)) (by kernel_rfl) (ldB ty3 (l := c_Ref17Use (gt a0 x3)) (o := 1) (v := .int .i64 ((gt a0 x3).Live)) (ent_refl _) (by kernel_rfl))) hI ?_)
                refine OpsT.pures (r := []) [14, 15, 16] [0, 1, 5, 6, 7, 34] (S' := [(0, .slice A_a0 a0.length c_a0), (1, .int .i64 a1), (5, .int .i64 x2), (6, .int .i64 x3), (7, .pointer (some ⟨b12, 0, none⟩)), (34, .bool (decide (((gt a0 x3).Live) ≥ a1)))]) (by kernel_rfl) ?_
                refine OpsT.done ?_
                have e := someS h3
                subst e
                exact Qn.thenJ fun a ha => ⟨decide (((gt a0 x3).Live) ≥ a1), rfl, ha.keep [0, 1, 5, 6, 7, 34] (by kernel_rfl), hI⟩
        ·
          rintro a w ⟨x13, rfl, ha, hI⟩
          try dsimp only at h2
          refine CodT.of ?_ ha
          by_cases hb17 : x13 = true
          · rw [if_pos hb17] at h2
            refine CodT.yes' (b := x13) (by kernel_rfl) hb17 ?_
            refine CodT.exit ?_
            refine Qn.exit_then ?_
            refine Qn.block ?_
            have hI := hI.drop
            have e := someS h2
            subst e
            exact Qn.thenJ fun a ha => ⟨x2, rfl, ha.keep [0, 1, 5, 6] (by kernel_rfl), hI⟩
          · rw [if_neg hb17] at h2
            refine CodT.no' (b := x13) (by kernel_rfl) (by simpa using hb17) ?_
            refine CodT.skip ?_
            refine Qn.then ?_
            obtain ⟨r3, h3, h2⟩ := bindS h2
            refine CodT.meet (fun a w => ∃ (x18 : Bool), x18 = r3 ∧ Fr 69 [(0, .slice A_a0 a0.length c_a0), (1, .int .i64 a1), (5, .int .i64 x2), (6, .int .i64 x3), (66, .bool x18)] a ∧ Inv w0 Z w A) ?_ ?_
            ·
              refine CodT.drawI (n := 32) [] (by kernel_rfl) (by kernel_rfl) hI ?_
              intro w hI
              refine GmT.p' 0 35 (.int .i64 x2) (by kernel_rfl) (by kernel_rfl) ?_
              refine GmT.p' 1 36 (.bool (decide (x2 < 0))) (by kernel_rfl) (by kernel_rfl) ?_
              refine GmT.p' 2 37 (.bool (decide (x2 < 0))) (by kernel_rfl) (by kernel_rfl) ?_
              by_cases hb19 : (decide (x2 < 0)) = true
              · rw [if_pos hb19] at h3
                refine GmT.keep [0, 1, 5, 6, 7, 37] (S' := [(0, .slice A_a0 a0.length c_a0), (1, .int .i64 a1), (5, .int .i64 x2), (6, .int .i64 x3), (7, .pointer (some ⟨b12, 0, none⟩)), (37, .bool true)]) (by simp only [hb19]; kernel_rfl) ?_
                refine GmT.p' 3 38 (undef) (by kernel_rfl) (by kernel_rfl) ?_
                refine GmT.p' 4 39 (undef) (by kernel_rfl) (by kernel_rfl) ?_
                refine GmT.p' 5 40 (undef) (by kernel_rfl) (by kernel_rfl) ?_
                refine GmT.p' 6 41 (undef) (by kernel_rfl) (by kernel_rfl) ?_
                refine GmT.p' 7 42 (undef) (by kernel_rfl) (by kernel_rfl) ?_
                refine GmT.p' 8 43 (undef) (by kernel_rfl) (by kernel_rfl) ?_
                refine GmT.p' 9 44 (undef) (by kernel_rfl) (by kernel_rfl) ?_
                refine GmT.p' 10 45 (undef) (by kernel_rfl) (by kernel_rfl) ?_
                refine GmT.p' 11 46 (.bool true) (by kernel_rfl) (by kernel_rfl) ?_
                refine GmT.p' 12 47 (.bool true) (by kernel_rfl) (by kernel_rfl) ?_
                refine GmT.p' 13 48 (undef) (by kernel_rfl) (by kernel_rfl) ?_
                refine GmT.p' 14 49 (undef) (by kernel_rfl) (by kernel_rfl) ?_
                refine GmT.p' 15 50 (undef) (by kernel_rfl) (by kernel_rfl) ?_
                refine GmT.p' 16 51 (undef) (by kernel_rfl) (by kernel_rfl) ?_
                refine GmT.p' 17 52 (undef) (by kernel_rfl) (by kernel_rfl) ?_
                refine GmT.p' 18 53 (undef) (by kernel_rfl) (by kernel_rfl) ?_
                refine GmT.p' 19 54 (undef) (by kernel_rfl) (by kernel_rfl) ?_
                refine GmT.p' 20 55 (undef) (by kernel_rfl) (by kernel_rfl) ?_
                refine GmT.p' 21 56 (undef) (by kernel_rfl) (by kernel_rfl) ?_
                refine GmT.p' 22 57 (undef) (by kernel_rfl) (by kernel_rfl) ?_
                refine GmT.p' 23 58 (undef) (by kernel_rfl) (by kernel_rfl) ?_
                refine GmT.p' 24 59 (undef) (by kernel_rfl) (by kernel_rfl) ?_
                refine GmT.p' 25 60 (undef) (by kernel_rfl) (by kernel_rfl) ?_
                refine GmT.p' 26 61 (undef) (by kernel_rfl) (by kernel_rfl) ?_
                refine GmT.p' 27 62 (undef) (by kernel_rfl) (by kernel_rfl) ?_
                refine GmT.p' 28 63 (undef) (by kernel_rfl) (by kernel_rfl) ?_
                refine GmT.p' 29 64 (undef) (by kernel_rfl) (by kernel_rfl) ?_
                refine GmT.p' 30 65 (undef) (by kernel_rfl) (by kernel_rfl) ?_
                refine GmT.p' 31 66 (.bool true) (by kernel_rfl) (by kernel_rfl) ?_
                refine GmT.done (by kernel_rfl) ?_
                have hI := hI.drop
                have e := someS h3
                subst e
                exact Qn.thenJ fun a ha => ⟨true, rfl, ha.keep [0, 1, 5, 6, 66] (by kernel_rfl), hI⟩
              · rw [if_neg hb19] at h3
                have hb19 : (decide (x2 < 0)) = false := by simpa using hb19
                refine GmT.keep [0, 1, 5, 6, 7, 37] (S' := [(0, .slice A_a0 a0.length c_a0), (1, .int .i64 a1), (5, .int .i64 x2), (6, .int .i64 x3), (7, .pointer (some ⟨b12, 0, none⟩)), (37, .bool false)]) (by simp only [hb19]; kernel_rfl) ?_
                refine GmT.p' 3 38 (.pointer (some ⟨b12, 1, none⟩)) (by kernel_rfl) (by kernel_rfl) ?_
                refine GmT.p' 5 40 (.slice A_a0 a0.length c_a0) (by kernel_rfl) (by kernel_rfl) ?_
                refine GmT.p' 6 41 (.int .i64 x2) (by kernel_rfl) (by kernel_rfl) ?_
                refine GmT.r (i := 4) 2 (by kernel_rfl) (by kernel_rfl) (Yl.load (d := 39) (T := 3) (v := .int .i64 ((gt a0 x3).Live)) (by kernel_rfl) (ldB ty3 (l := c_Ref17Use (gt a0 x3)) (o := 1) (v := .int .i64 ((gt a0 x3).Live)) (ent_refl _) (by kernel_rfl))) hI ?_
                obtain ⟨hg20, h3⟩ := guardS h3
                obtain ⟨g21, o25, hA22, hr23, hl24⟩ := RdS.get hr_a0 hg20.1 hg20.2
                refine GmT.r (i := 7) 2 (by kernel_rfl) (by kernel_rfl) (Yl.indexSlice (d := 42) (T := 37) (cc := c_a0) (k := .i64) (j := x2) (g := g21) (o := o25) (by kernel_rfl) Go.Proofs.Try.underlying37 ty61 hA22 hg20.1 hg20.2) hI ?_
                refine GmT.p' 8 43 (.pointer (some ⟨g21, o25 + x2.toNat * 5 + 1, none⟩)) (by kernel_rfl) (by kernel_rfl) ?_
                refine GmT.r (i := 9) 2 (by kernel_rfl) (by kernel_rfl) (Yl.load (d := 44) (T := 3) (v := .int .i64 ((gt a0 x2).Live)) (by kernel_rfl) (ldR ty3 (v := .int .i64 ((gt a0 x2).Live)) 1 (fun w hC => hr23 w0 w _ hC) (by kernel_rfl))) hI ?_
                refine GmT.p' 10 45 (.bool (decide (((gt a0 x3).Live) < ((gt a0 x2).Live)))) (by kernel_rfl) (by kernel_rfl) ?_
                refine GmT.p' 11 46 (.bool (decide (((gt a0 x3).Live) < ((gt a0 x2).Live)))) (by kernel_rfl) (by kernel_rfl) ?_
                refine GmT.p' 12 47 (.bool (decide (((gt a0 x3).Live) < ((gt a0 x2).Live)))) (by kernel_rfl) (by kernel_rfl) ?_
                by_cases hb26 : (decide (((gt a0 x3).Live) < ((gt a0 x2).Live))) = true
                · rw [if_pos hb26] at h3
                  refine GmT.keep [0, 1, 5, 6, 7, 47] (S' := [(0, .slice A_a0 a0.length c_a0), (1, .int .i64 a1), (5, .int .i64 x2), (6, .int .i64 x3), (7, .pointer (some ⟨b12, 0, none⟩)), (47, .bool true)]) (by simp only [hb26]; kernel_rfl) ?_
                  refine GmT.p' 13 48 (undef) (by kernel_rfl) (by kernel_rfl) ?_
                  refine GmT.p' 14 49 (undef) (by kernel_rfl) (by kernel_rfl) ?_
                  refine GmT.p' 15 50 (undef) (by kernel_rfl) (by kernel_rfl) ?_
                  refine GmT.p' 16 51 (undef) (by kernel_rfl) (by kernel_rfl) ?_
                  refine GmT.p' 17 52 (undef) (by kernel_rfl) (by kernel_rfl) ?_
                  refine GmT.p' 18 53 (undef) (by kernel_rfl) (by kernel_rfl) ?_
                  refine GmT.p' 19 54 (undef) (by kernel_rfl) (by kernel_rfl) ?_
                  refine GmT.p' 20 55 (undef) (by kernel_rfl) (by kernel_rfl) ?_
                  refine GmT.p' 21 56 (undef) (by kernel_rfl) (by kernel_rfl) ?_
                  refine GmT.p' 22 57 (undef) (by kernel_rfl) (by kernel_rfl) ?_
                  refine GmT.p' 23 58 (undef) (by kernel_rfl) (by kernel_rfl) ?_
                  refine GmT.p' 24 59 (undef) (by kernel_rfl) (by kernel_rfl) ?_
                  refine GmT.p' 25 60 (undef) (by kernel_rfl) (by kernel_rfl) ?_
                  refine GmT.p' 26 61 (undef) (by kernel_rfl) (by kernel_rfl) ?_
                  refine GmT.p' 27 62 (undef) (by kernel_rfl) (by kernel_rfl) ?_
                  refine GmT.p' 28 63 (undef) (by kernel_rfl) (by kernel_rfl) ?_
                  refine GmT.p' 29 64 (undef) (by kernel_rfl) (by kernel_rfl) ?_
                  refine GmT.p' 30 65 (undef) (by kernel_rfl) (by kernel_rfl) ?_
                  refine GmT.p' 31 66 (.bool true) (by kernel_rfl) (by kernel_rfl) ?_
                  refine GmT.done (by kernel_rfl) ?_
                  have hI := hI.drop
                  have e := someS h3
                  subst e
                  exact Qn.thenJ fun a ha => ⟨true, rfl, ha.keep [0, 1, 5, 6, 66] (by kernel_rfl), hI⟩
                · rw [if_neg hb26] at h3
                  have hb26 : (decide (((gt a0 x3).Live) < ((gt a0 x2).Live))) = false := by simpa using hb26
                  refine GmT.keep [0, 1, 5, 6, 7, 47] (S' := [(0, .slice A_a0 a0.length c_a0), (1, .int .i64 a1), (5, .int .i64 x2), (6, .int .i64 x3), (7, .pointer (some ⟨b12, 0, none⟩)), (47, .bool false)]) (by simp only [hb26]; kernel_rfl) ?_
                  refine GmT.p' 13 48 (.pointer (some ⟨b12, 1, none⟩)) (by kernel_rfl) (by kernel_rfl) ?_
                  refine GmT.p' 15 50 (.slice A_a0 a0.length c_a0) (by kernel_rfl) (by kernel_rfl) ?_
                  refine GmT.p' 16 51 (.int .i64 x2) (by kernel_rfl) (by kernel_rfl) ?_
                  refine GmT.r (i := 14) 2 (by kernel_rfl) (by kernel_rfl) (Yl.load (d := 49) (T := 3) (v := .int .i64 ((gt a0 x3).Live)) (by kernel_rfl) (ldB ty3 (l := c_Ref17Use (gt a0 x3)) (o := 1) (v := .int .i64 ((gt a0 x3).Live)) (ent_refl _) (by kernel_rfl))) hI ?_
                  obtain ⟨hg27, h3⟩ := guardS h3
                  obtain ⟨g28, o32, hA29, hr30, hl31⟩ := RdS.get hr_a0 hg27.1 hg27.2
                  refine GmT.r (i := 17) 2 (by kernel_rfl) (by kernel_rfl) (Yl.indexSlice (d := 52) (T := 37) (cc := c_a0) (k := .i64) (j := x2) (g := g28) (o := o32) (by kernel_rfl) Go.Proofs.Try.underlying37 ty61 hA29 hg27.1 hg27.2) hI ?_
                  refine GmT.p' 18 53 (.pointer (some ⟨g28, o32 + x2.toNat * 5 + 1, none⟩)) (by kernel_rfl) (by kernel_rfl) ?_
                  refine GmT.r (i := 19) 2 (by kernel_rfl) (by kernel_rfl) (Yl.load (d := 54) (T := 3) (v := .int .i64 ((gt a0 x2).Live)) (by kernel_rfl) (ldR ty3 (v := .int .i64 ((gt a0 x2).Live)) 1 (fun w hC => hr30 w0 w _ hC) (by kernel_rfl))) hI ?_
                  refine GmT.p' 20 55 (.bool (((gt a0 x3).Live) == ((gt a0 x2).Live))) (by kernel_rfl) (by kernel_rfl) ?_
                  refine GmT.p' 21 56 (.bool (((gt a0 x3).Live) == ((gt a0 x2).Live))) (by kernel_rfl) (by kernel_rfl) ?_
                  by_cases hb33 : (((gt a0 x3).Live) == ((gt a0 x2).Live)) = true
                  · rw [if_pos hb33] at h3
                    refine GmT.keep [0, 1, 5, 6, 7, 47, 56] (S' := [(0, .slice A_a0 a0.length c_a0), (1, .int .i64 a1), (5, .int .i64 x2), (6, .int .i64 x3), (7, .pointer (some ⟨b12, 0, none⟩)), (47, .bool false), (56, .bool true)]) (by simp only [hb33]; kernel_rfl) ?_
                    refine GmT.p' 22 57 (.pointer (some ⟨b12, 2, none⟩)) (by kernel_rfl) (by kernel_rfl) ?_
                    refine GmT.p' 24 59 (.slice A_a0 a0.length c_a0) (by kernel_rfl) (by kernel_rfl) ?_
                    refine GmT.p' 25 60 (.int .i64 x2) (by kernel_rfl) (by kernel_rfl) ?_
                    refine GmT.r (i := 23) 2 (by kernel_rfl) (by kernel_rfl) (Yl.load (d := 58) (T := 3) (v := .int .i64 ((gt a0 x3).Worn)) (by kernel_rfl) (ldB ty3 (l := c_Ref17Use (gt a0 x3)) (o := 2) (v := .int .i64 ((gt a0 x3).Worn)) (ent_refl _) (by kernel_rfl))) hI ?_
                    obtain ⟨hg34, h3⟩ := guardS h3
                    obtain ⟨g35, o39, hA36, hr37, hl38⟩ := RdS.get hr_a0 hg34.1 hg34.2
                    refine GmT.r (i := 26) 2 (by kernel_rfl) (by kernel_rfl) (Yl.indexSlice (d := 61) (T := 37) (cc := c_a0) (k := .i64) (j := x2) (g := g35) (o := o39) (by kernel_rfl) Go.Proofs.Try.underlying37 ty61 hA36 hg34.1 hg34.2) hI ?_
                    refine GmT.p' 27 62 (.pointer (some ⟨g35, o39 + x2.toNat * 5 + 2, none⟩)) (by kernel_rfl) (by kernel_rfl) ?_
                    refine GmT.r (i := 28) 2 (by kernel_rfl) (by kernel_rfl) (Yl.load (d := 63) (T := 3) (v := .int .i64 ((gt a0 x2).Worn)) (by kernel_rfl) (ldR ty3 (v := .int .i64 ((gt a0 x2).Worn)) 2 (fun w hC => hr37 w0 w _ hC) (by kernel_rfl))) hI ?_
                    refine GmT.p' 29 64 (.bool (decide (((gt a0 x3).Worn) < ((gt a0 x2).Worn)))) (by kernel_rfl) (by kernel_rfl) ?_
                    refine GmT.p' 30 65 (.bool (decide (((gt a0 x3).Worn) < ((gt a0 x2).Worn)))) (by kernel_rfl) (by kernel_rfl) ?_
                    refine GmT.p' 31 66 (.bool (decide (((gt a0 x3).Worn) < ((gt a0 x2).Worn)))) (by kernel_rfl) (by kernel_rfl) ?_
                    refine GmT.done (by kernel_rfl) ?_
                    have hI := hI.drop
                    have e := someS h3
                    subst e
                    exact Qn.thenJ fun a ha => ⟨decide (((gt a0 x3).Worn) < ((gt a0 x2).Worn)), rfl, ha.keep [0, 1, 5, 6, 66] (by kernel_rfl), hI⟩
                  · rw [if_neg hb33] at h3
                    have hb33 : (((gt a0 x3).Live) == ((gt a0 x2).Live)) = false := by simpa using hb33
                    refine GmT.keep [0, 1, 5, 6, 7, 47, 56] (S' := [(0, .slice A_a0 a0.length c_a0), (1, .int .i64 a1), (5, .int .i64 x2), (6, .int .i64 x3), (7, .pointer (some ⟨b12, 0, none⟩)), (47, .bool false), (56, .bool false)]) (by simp only [hb33]; kernel_rfl) ?_
                    refine GmT.p' 22 57 (undef) (by kernel_rfl) (by kernel_rfl) ?_
                    refine GmT.p' 23 58 (undef) (by kernel_rfl) (by kernel_rfl) ?_
                    refine GmT.p' 24 59 (undef) (by kernel_rfl) (by kernel_rfl) ?_
                    refine GmT.p' 25 60 (undef) (by kernel_rfl) (by kernel_rfl) ?_
                    refine GmT.p' 26 61 (undef) (by kernel_rfl) (by kernel_rfl) ?_
                    refine GmT.p' 27 62 (undef) (by kernel_rfl) (by kernel_rfl) ?_
                    refine GmT.p' 28 63 (undef) (by kernel_rfl) (by kernel_rfl) ?_
                    refine GmT.p' 29 64 (undef) (by kernel_rfl) (by kernel_rfl) ?_
                    refine GmT.p' 30 65 (.bool false) (by kernel_rfl) (by kernel_rfl) ?_
                    refine GmT.p' 31 66 (.bool false) (by kernel_rfl) (by kernel_rfl) ?_
                    refine GmT.done (by kernel_rfl) ?_
                    have hI := hI.drop
                    have e := someS h3
                    subst e
                    exact Qn.thenJ fun a ha => ⟨false, rfl, ha.keep [0, 1, 5, 6, 66] (by kernel_rfl), hI⟩
            ·
              rintro a w ⟨x18, rfl, ha, hI⟩
              try dsimp only at h2
              refine CodT.of ?_ ha
              by_cases hb40 : x18 = true
              · rw [if_pos hb40] at h2
                refine CodT.yes' (b := x18) (by kernel_rfl) hb40 ?_
                refine CodT.regionL [0, 1] (by kernel_rfl) ?_
                refine OpsT.pures (r := []) [0, 1] [0, 1, 5, 6] (S' := [(0, .slice A_a0 a0.length c_a0), (1, .int .i64 a1), (5, .int .i64 x3), (6, .int .i64 x3)]) (by kernel_rfl) ?_
                refine OpsT.done ?_
                refine Qn.block_normal ?_
                have e := someS h2
                subst e
                exact Qn.thenJ fun a ha => ⟨x3, rfl, ha.keep [0, 1, 5, 6] (by kernel_rfl), hI⟩
              · rw [if_neg hb40] at h2
                refine CodT.no' (b := x18) (by kernel_rfl) (by simpa using hb40) ?_
                refine CodT.skip ?_
                refine Qn.block_normal ?_
                have e := someS h2
                subst e
                exact Qn.thenJ fun a ha => ⟨x2, rfl, ha.keep [0, 1, 5, 6] (by kernel_rfl), hI⟩
      ·
        rintro a w ⟨x5, rfl, ha, hI⟩
        try dsimp only at h1
        refine CodT.of ?_ ha
        refine CodT.regionL [0, 1, 2] (by kernel_rfl) ?_
        refine OpsT.pures (r := []) [0, 1, 2] [0, 1, 5, 6] (S' := [(0, .slice A_a0 a0.length c_a0), (1, .int .i64 a1), (5, .int .i64 x5), (6, .int .i64 (wi64 (x3 + 1)))]) (by kernel_rfl) ?_
        refine OpsT.done ?_
        exact Qn.thenJ fun a ha => ⟨k, Nat.lt_succ_self k, x5, wi64 (x3 + 1), h1, ha.keep [0, 1, 5, 6] (by kernel_rfl), hI⟩
    · rw [if_neg hb4] at h1
      refine CodT.no' (b := decide (x3 < (a0.length : Int))) (by kernel_rfl) (by simpa using hb4) ?_
      refine CodT.exit ?_
      refine Qn.exit_then ?_
      refine Qn.exit_then ?_
      refine Qn.block ?_
      have e := someS h1
      subst e
      exact Qn.thenJ fun a ha => ⟨x2, rfl, ha.keep [5] (by kernel_rfl), hI⟩
  ·
    rintro a w ⟨x1, rfl, ha, hI⟩
    try dsimp only at h0
    refine Qn.of ?_ ha
    refine Qn.then ?_
    refine CodT.seq ?_
    refine CodT.regionL [0, 1] (by kernel_rfl) ?_
    refine OpsT.pures (r := []) [0, 1] [4] (S' := [(4, .int .i64 x1)]) (by kernel_rfl) ?_
    refine OpsT.done ?_
    refine Qn.then ?_
    refine CodT.ret ?_
    have e := someS h0
    subst e
    refine Qn.keep [4] (S' := [(4, .int .i64 x1)]) (by kernel_rfl) ?_
    exact post_ret (v := .int .i64 x1) (fun a ha => RunRes.run (vs := [.int .i64 x1]) (.tmp (t := 4) (by kernel_rfl) .nil) ha (by kernel_rfl)) ⟨rfl, hI⟩
set_option maxRecDepth 100000 in
set_option maxHeartbeats 4000000 in
/-- cenotaph/cenotaphref17.Spare -/
theorem c35 (w0 w : World) (Z : Hp) (A : HP)  (hI : Inv w0 Z w A) (A_a0 : Option Addr) (c_a0 : Nat) (a0 : (List Ref17Use)) (hr_a0 : RdS Z c_Ref17Use 5 A_a0 c_a0 a0) (a1 : Int) (r : Int) (h0 : ref17_Spare a0 a1 = some r) :
    Calls prog 35 #[.slice A_a0 a0.length c_a0, .int .i64 a1] w (fun e w' => e = .returned (.int .i64 r) ∧ Inv w0 Z w' A) := by
  refine calls_intro (args := [.slice A_a0 a0.length c_a0, .int .i64 a1]) (fn := Go.Proofs.Try.f35) 26 Go.Proofs.Try.func35 (by rfl) Go.Proofs.Try.ntmps35 (by kernel_rfl) ?_
  unfold ref17_Spare at h0
  refine CodT.seq ?_
  refine CodT.regionL [0] (by kernel_rfl) ?_
  refine OpsT.pures (r := []) [0] [0, 1] (S' := [(0, .slice A_a0 a0.length c_a0), (1, .int .i64 a1)]) (by kernel_rfl) ?_
  refine OpsT.done ?_
  refine Qn.then ?_
  refine CodT.seq ?_
  refine CodT.regionL [0] (by kernel_rfl) ?_
  refine OpsT.pures (r := []) [0] [0, 1, 5] (S' := [(0, .slice A_a0 a0.length c_a0), (1, .int .i64 a1), (5, .int .i64 0)]) (by kernel_rfl) ?_
  refine OpsT.done ?_
  refine Qn.then ?_
  refine CodT.seq ?_
  refine CodT.seq ?_
  refine CodT.regionL [0] (by kernel_rfl) ?_
  refine OpsT.pures (r := []) [0] [0, 1, 5, 6] (S' := [(0, .slice A_a0 a0.length c_a0), (1, .int .i64 a1), (5, .int .i64 0), (6, .int .i64 0)]) (by kernel_rfl) ?_
  refine OpsT.done ?_
  refine Qn.then ?_
  obtain ⟨r1, h1, h0⟩ := bindS h0
  refine CodT.meet1 (fun a w => ∃ (x1 : Int), x1 = r1 ∧ Fr 26 [(5, .int .i64 x1)] a ∧ Inv w0 Z w A) ?_ ?_
  ·
    refine CodT.block ?_
    refine (fun a ha => wp_loopN (fun k a w => ∃ (x2 : Int) (x3 : Int), ref17_Spare.l0 a0 a1 k x2 x3 = some r1 ∧ Fr 26 [(0, .slice A_a0 a0.length c_a0), (1, .int .i64 a1), (5, .int .i64 x2), (6, .int .i64 x3)] a ∧ Inv w0 Z w A) ?_ FU a w ⟨0, 0, h1, ha.keep [0, 1, 5, 6] (by kernel_rfl), hI⟩)
    clear h1 hI
    rintro k a w ⟨x2, x3, h1, ha, hI⟩
    rcases k with _ | k
    · cases h1
    simp only [ref17_Spare.l0] at h1
    refine CodT.of ?_ ha
    refine CodT.seq ?_
    refine CodT.seq ?_
    refine CodT.regionL [0, 1, 2, 3] (by kernel_rfl) ?_
    refine OpsT.pures (r := []) [0, 1, 2, 3] [0, 1, 5, 6, 10] (S' := [(0, .slice A_a0 a0.length c_a0), (1, .int .i64 a1), (5, .int .i64 x2), (6, .int .i64 x3), (10, .bool (decide (x3 < (a0.length : Int))))]) (by kernel_rfl) ?_
    refine OpsT.done ?_
    refine Qn.then ?_
    by_cases hb4 : (decide (x3 < (a0.length : Int))) = true
    · rw [if_pos hb4] at h1
      refine CodT.yes' (b := decide (x3 < (a0.length : Int))) (by kernel_rfl) hb4 ?_
      refine CodT.skip ?_
      refine Qn.then ?_
      obtain ⟨r2, h2, h1⟩ := bindS h1
      refine CodT.meet (fun a w => ∃ (x5 : Int), x5 = r2 ∧ Fr 26 [(0, .slice A_a0 a0.length c_a0), (1, .int .i64 a1), (5, .int .i64 x5), (6, .int .i64 x3)] a ∧ Inv w0 Z w A) ?_ ?_
      ·
        refine CodT.block ?_
        obtain ⟨r3, h3, h2⟩ := bindS h2
        refine CodT.meet (fun a w => ∃ (x6 : Bool), x6 = r3 ∧ Fr 26 [(0, .slice A_a0 a0.length c_a0), (1, .int .i64 a1), (5, .int .i64 x2), (6, .int .i64 x3), (21, .bool x6)] a ∧ Inv w0 Z w A) ?_ ?_
        ·
          refine CodT.regionL [0, 1, 2, 3, 4, 5, 6, 7, 8] (by kernel_rfl) ?_
          refine OpsT.pures (r := [2, 3, 4, 5, 6, 7, 8]) [0, 1] [0, 1, 5, 6, 13, 14] (S' := [(0, .slice A_a0 a0.length c_a0), (1, .int .i64 a1), (5, .int .i64 x2), (6, .int .i64 x3), (13, .slice A_a0 a0.length c_a0), (14, .int .i64 x3)]) (by kernel_rfl) ?_
          obtain ⟨hg7, h3⟩ := guardS h3
          obtain ⟨g8, o12, hA9, hr10, hl11⟩ := RdS.get hr_a0 hg7.1 hg7.2
          refine OpsT.cons (Does.yi (Yl.indexSlice (d := 15) (T := 37) (cc := c_a0) (k := .i64) (j := x3) (g := g8) (o := o12) (by kernel_rfl) Go.Proofs.Try.underlying37 ty61 hA9 hg7.1 hg7.2) hI ?_)
          refine OpsT.cons (Does.yi (Yl.load (d := 16) (T := 61) (v := .agg (c_Ref17Use (gt a0 x3)).toArray) (by kernel_rfl) (ldRN ty61 (cs := c_Ref17Use (gt a0 x3)) 0 (fun w hC => hr10 w0 w _ hC) hl11 (whole _ _ hl11))) hI ?_)
          obtain ⟨y14, hc13, h3⟩ := bindS h3
          try dsimp only at h3
          refine OpsT.cons (Does.call (d := some 17) (n := 48) (vs := [.agg (c_Ref17Use (gt a0 x3)).toArray]) (by kernel_rfl) en48 (c48 w0 w _ _ hI (gt a0 x3) _ hc13) ?_)
          rintro e w ⟨rfl, hI⟩
          refine ⟨_, rfl, ?_⟩
          refine OpsT.pures (r := [6, 7, 8]) [5] [0, 1, 5, 6, 18] (S' := [(0, .slice A_a0 a0.length c_a0), (1, .int .i64 a1), (5, .int .i64 x2), (6, .int .i64 x3), (18, .bool y14)]) (by kernel_rfl) ?_
          by_cases hb15 : y14 = true
          · rw [if_pos hb15] at h3
            refine OpsT.keep [0, 1, 5, 6, 18] (S' := [(0, .slice A_a0 a0.length c_a0), (1, .int .i64 a1), (5, .int .i64 x2), (6, .int .i64 x3), (18, .bool true)]) (by simp only [hb15]; kernel_rfl) ?_
            refine OpsT.pures (r := []) [6, 7, 8] [0, 1, 5, 6, 21] (S' := [(0, .slice A_a0 a0.length c_a0), (1, .int .i64 a1), (5, .int .i64 x2), (6, .int .i64 x3), (21, .bool (decide (a1 > 0)))]) (by kernel_rfl) ?_
            refine OpsT.done ?_
            have e := someS h3
            subst e
            exact Qn.thenJ fun a ha => ⟨decide (a1 > 0), rfl, ha.keep [0, 1, 5, 6, 21] (by kernel_rfl), hI⟩
          · rw [if_neg hb15] at h3
            have hb15 : y14 = false := by simpa using hb15
            refine OpsT.keep [0, 1, 5, 6, 18] (S' := [(0, .slice A_a0 a0.length c_a0), (1, .int .i64 a1), (5, .int .i64 x2), (6, .int .i64 x3), (18, .bool false)]) (by simp only [hb15]; kernel_rfl) ?_
            refine OpsT.pures (r := []) [6, 7, 8] [0, 1, 5, 6, 21] (S' := [(0, .slice A_a0 a0.length c_a0), (1, .int .i64 a1), (5, .int .i64 x2), (6, .int .i64 x3), (21, .bool false)]) (by kernel_rfl) ?_
            refine OpsT.done ?_
            have e := someS h3
            subst e
            exact Qn.thenJ fun a ha => ⟨false, rfl, ha.keep [0, 1, 5, 6, 21] (by kernel_rfl), hI⟩
        ·
          rintro a w ⟨x6, rfl, ha, hI⟩
          try dsimp only at h2
          refine CodT.of ?_ ha
          by_cases hb16 : x6 = true
          · rw [if_pos hb16] at h2
            refine CodT.yes' (b := x6) (by kernel_rfl) hb16 ?_
            refine CodT.regionL [0, 1, 2, 3] (by kernel_rfl) ?_
            refine OpsT.pures (r := []) [0, 1, 2, 3] [0, 1, 5, 6] (S' := [(0, .slice A_a0 a0.length c_a0), (1, .int .i64 a1), (5, .int .i64 (wi64 (x2 + a1))), (6, .int .i64 x3)]) (by kernel_rfl) ?_
            refine OpsT.done ?_
            refine Qn.block_normal ?_
            have e := someS h2
            subst e
            exact Qn.thenJ fun a ha => ⟨wi64 (x2 + a1), rfl, ha.keep [0, 1, 5, 6] (by kernel_rfl), hI⟩
          · rw [if_neg hb16] at h2
            refine CodT.no' (b := x6) (by kernel_rfl) (by simpa using hb16) ?_
            refine CodT.skip ?_
            refine Qn.block_normal ?_
            have e := someS h2
            subst e
            exact Qn.thenJ fun a ha => ⟨x2, rfl, ha.keep [0, 1, 5, 6] (by kernel_rfl), hI⟩
      ·
        rintro a w ⟨x5, rfl, ha, hI⟩
        try dsimp only at h1
        refine CodT.of ?_ ha
        refine CodT.regionL [0, 1, 2] (by kernel_rfl) ?_
        refine OpsT.pures (r := []) [0, 1, 2] [0, 1, 5, 6] (S' := [(0, .slice A_a0 a0.length c_a0), (1, .int .i64 a1), (5, .int .i64 x5), (6, .int .i64 (wi64 (x3 + 1)))]) (by kernel_rfl) ?_
        refine OpsT.done ?_
        exact Qn.thenJ fun a ha => ⟨k, Nat.lt_succ_self k, x5, wi64 (x3 + 1), h1, ha.keep [0, 1, 5, 6] (by kernel_rfl), hI⟩
    · rw [if_neg hb4] at h1
      refine CodT.no' (b := decide (x3 < (a0.length : Int))) (by kernel_rfl) (by simpa using hb4) ?_
      refine CodT.exit ?_
      refine Qn.exit_then ?_
      refine Qn.exit_then ?_
      refine Qn.block ?_
      have e := someS h1
      subst e
      exact Qn.thenJ fun a ha => ⟨x2, rfl, ha.keep [5] (by kernel_rfl), hI⟩
  ·
    rintro a w ⟨x1, rfl, ha, hI⟩
    try dsimp only at h0
    refine Qn.of ?_ ha
    refine Qn.then ?_
    refine CodT.seq ?_
    refine CodT.regionL [0, 1] (by kernel_rfl) ?_
    refine OpsT.pures (r := []) [0, 1] [4] (S' := [(4, .int .i64 x1)]) (by kernel_rfl) ?_
    refine OpsT.done ?_
    refine Qn.then ?_
    refine CodT.ret ?_
    have e := someS h0
    subst e
    refine Qn.keep [4] (S' := [(4, .int .i64 x1)]) (by kernel_rfl) ?_
    exact post_ret (v := .int .i64 x1) (fun a ha => RunRes.run (vs := [.int .i64 x1]) (.tmp (t := 4) (by kernel_rfl) .nil) ha (by kernel_rfl)) ⟨rfl, hI⟩
set_option maxRecDepth 100000 in
set_option maxHeartbeats 4000000 in
/-- cenotaph/cenotaphref17.Even -/
theorem c37 (w0 w : World) (Z : Hp) (A : HP)  (hI : Inv w0 Z w A) (A_a0 : Option Addr) (c_a0 : Nat) (a0 : (List Ref17Use)) (hr_a0 : RdS Z c_Ref17Use 5 A_a0 c_a0 a0) (r : Int) (h0 : ref17_Even a0 = some r) :
    Calls prog 37 #[.slice A_a0 a0.length c_a0] w (fun e w' => e = .returned (.int .i64 r) ∧ Inv w0 Z w' A) := by
  refine calls_intro (args := [.slice A_a0 a0.length c_a0]) (fn := Go.Proofs.Try.f37) 75 Go.Proofs.Try.func37 (by rfl) Go.Proofs.Try.ntmps37 (by kernel_rfl) ?_
  unfold ref17_Even at h0
  refine CodT.seq ?_
  refine CodT.regionL [0] (by kernel_rfl) ?_
  refine OpsT.pures (r := []) [0] [0] (S' := [(0, .slice A_a0 a0.length c_a0)]) (by kernel_rfl) ?_
  refine OpsT.done ?_
  refine Qn.then ?_
  refine CodT.seq ?_
  refine CodT.regionL [0] (by kernel_rfl) ?_
  refine OpsT.pures (r := []) [0] [0, 3] (S' := [(0, .slice A_a0 a0.length c_a0), (3, .int .i64 (-1))]) (by kernel_rfl) ?_
  refine OpsT.done ?_
  refine Qn.then ?_
  refine CodT.seq ?_
  refine CodT.seq ?_
  refine CodT.regionL [0] (by kernel_rfl) ?_
  refine OpsT.pures (r := []) [0] [0, 3, 4] (S' := [(0, .slice A_a0 a0.length c_a0), (3, .int .i64 (-1)), (4, .int .i64 0)]) (by kernel_rfl) ?_
  refine OpsT.done ?_
  refine Qn.then ?_
  obtain ⟨r1, h1, h0⟩ := bindS h0
  refine CodT.meet1 (fun a w => ∃ (x1 : Int), x1 = r1 ∧ Fr 75 [(0, .slice A_a0 a0.length c_a0), (3, .int .i64 x1)] a ∧ Inv w0 Z w A) ?_ ?_
  ·
    refine CodT.block ?_
    refine (fun a ha => wp_loopN (fun k a w => ∃ (x2 : Int) (x3 : Int), ref17_Even.l0 a0 k x2 x3 = some r1 ∧ Fr 75 [(0, .slice A_a0 a0.length c_a0), (3, .int .i64 x2), (4, .int .i64 x3)] a ∧ Inv w0 Z w A) ?_ FU a w ⟨-1, 0, h1, ha.keep [0, 3, 4] (by kernel_rfl), hI⟩)
    clear h1 hI
    rintro k a w ⟨x2, x3, h1, ha, hI⟩
    rcases k with _ | k
    · cases h1
    simp only [ref17_Even.l0] at h1
    refine CodT.of ?_ ha
    refine CodT.seq ?_
    refine CodT.seq ?_
    refine CodT.regionL [0, 1, 2, 3] (by kernel_rfl) ?_
    refine OpsT.pures (r := []) [0, 1, 2, 3] [0, 3, 4, 10] (S' := [(0, .slice A_a0 a0.length c_a0), (3, .int .i64 x2), (4, .int .i64 x3), (10, .bool (decide (x3 < (a0.length : Int))))]) (by kernel_rfl) ?_
    refine OpsT.done ?_
    refine Qn.then ?_
    by_cases hb4 : (decide (x3 < (a0.length : Int))) = true
    · rw [if_pos hb4] at h1
      refine CodT.yes' (b := decide (x3 < (a0.length : Int))) (by kernel_rfl) hb4 ?_
      refine CodT.skip ?_
      refine Qn.then ?_
      obtain ⟨r2, h2, h1⟩ := bindS h1
      refine CodT.meet (fun a w => ∃ (x5 : Int), x5 = r2 ∧ Fr 75 [(0, .slice A_a0 a0.length c_a0), (3, .int .i64 x5), (4, .int .i64 x3)] a ∧ Inv w0 Z w A) ?_ ?_
      ·
        refine CodT.block ?_
        refine CodT.seq ?_
        refine CodT.regionL [0, 1, 2, 3, 4, 5] (by kernel_rfl) ?_
        refine OpsT.pures (r := [2, 3, 4, 5]) [0, 1] [0, 3, 4, 13, 14] (S' := [(0, .slice A_a0 a0.length c_a0), (3, .int .i64 x2), (4, .int .i64 x3), (13, .slice A_a0 a0.length c_a0), (14, .int .i64 x3)]) (by kernel_rfl) ?_
        obtain ⟨hg6, h2⟩ := guardS h2
        obtain ⟨g7, o11, hA8, hr9, hl10⟩ := RdS.get hr_a0 hg6.1 hg6.2
        refine OpsT.cons (Does.yi (Yl.indexSlice (d := 15) (T := 37) (cc := c_a0) (k := .i64) (j := x3) (g := g7) (o := o11) (by kernel_rfl) Go.Proofs.Try.underlying37 ty61 hA8 hg6.1 hg6.2) hI ?_)
        refine OpsT.cons (Does.yi (Yl.load (d := 16) (T := 61) (v := .agg (c_Ref17Use (gt a0 x3)).toArray) (by kernel_rfl) (ldRN ty61 (cs := c_Ref17Use (gt a0 x3)) 0 (fun w hC => hr9 w0 w _ hC) hl10 (whole _ _ hl10))) hI ?_)
        refine OpsT.cons (Does.allocL (d := 5) (T := 61) (c_Ref17Use (Ref17Use.mk 0 0 0 false false)) (by kernel_rfl) ty61 hI (by kernel_rfl) ?_)
        intro b12 w hI
        refine OpsT.cons (Does.storeLit (T := 61) (b := b12) (o := 0) (v := .agg (c_Ref17Use (gt a0 x3)).toArray) (l := c_Ref17Use (Ref17Use.mk 0 0 0 false false)) (vs := c_Ref17Use (gt a0 x3)) (L' := c_Ref17Use (gt a0 x3)) (by kernel_rfl) ty61 hI (by kernel_rfl) (by kernel_rfl) (by kernel_rfl) (by kernel_rfl) (by kernel_rfl) ?_)
        intro w hI
        refine OpsT.done ?_
        refine Qn.then ?_
        obtain ⟨r3, h3, h2⟩ := bindS h2
        refine CodT.meet (fun a w => ∃ (x13 : Bool), x13 = r3 ∧ Fr 75 [(0, .slice A_a0 a0.length c_a0), (3, .int .i64 x2), (4, .int .i64 x3), (43, .bool x13)] a ∧ Inv w0 Z w A) ?_ ?_
        ·
          refine CodT.drawI (n := 27) [] (by kernel_rfl) (by kernel_rfl) hI ?_
          intro w hI
          refine GmT.p' 0 17 (.pointer (some ⟨b12, 3, none⟩)) (by kernel_rfl) (by kernel_rfl) ?_
          refine GmT.r (i := 1) 2 (by kernel_rfl) (by kernel_rfl) (Yl.load (d := 18) (T := 4) (v := .bool ((gt a0 x3).Bad)) (by kernel_rfl) (ldB ty4 (l := c_Ref17Use (gt a0 x3)) (o := 3) (v := .bool ((gt a0 x3).Bad)) (ent_refl _) (by kernel_rfl))) hI ?_
          refine GmT.p' 2 19 (.bool (!((gt a0 x3).Bad))) (by kernel_rfl) (by kernel_rfl) ?_
          refine GmT.p' 3 20 (.bool (!((gt a0 x3).Bad))) (by kernel_rfl) (by kernel_rfl) ?_
          by_cases hb14 : (!((gt a0 x3).Bad)) = true
          · rw [if_pos hb14] at h3
            refine GmT.keep [0, 3, 4, 5, 20] (S' := [(0, .slice A_a0 a0.length c_a0), (3, .int .i64 x2), (4, .int .i64 x3), (5, .pointer (some ⟨b12, 0, none⟩)), (20, .bool true)]) (by simp only [hb14]; kernel_rfl) ?_
            refine GmT.p' 4 21 (.pointer (some ⟨b12, 4, none⟩)) (by kernel_rfl) (by kernel_rfl) ?_
            refine GmT.r (i := 5) 2 (by kernel_rfl) (by kernel_rfl) (Yl.load (d := 22) (T := 4) (v := .bool ((gt a0 x3).Keep)) (by kernel_rfl) (ldB ty4 (l := c_Ref17Use (gt a0 x3)) (o := 4) (v := .bool ((gt a0 x3).Keep)) (ent_refl _) (by kernel_rfl))) hI ?_
            refine GmT.p' 6 23 (.bool (!((gt a0 x3).Keep))) (by kernel_rfl) (by kernel_rfl) ?_
            refine GmT.p' 7 24 (.bool (!((gt a0 x3).Keep))) (by kernel_rfl) (by kernel_rfl) ?_
            refine GmT.p' 8 25 (.bool (!((gt a0 x3).Keep))) (by kernel_rfl) (by kernel_rfl) ?_
            by_cases hb15 : (!((gt a0 x3).Keep)) = true
            · rw [if_pos hb15] at h3
              refine GmT.keep [0, 3, 4, 5, 25] (S' := [(0, .slice A_a0 a0.length c_a0), (3, .int .i64 x2), (4, .int .i64 x3), (5, .pointer (some ⟨b12, 0, none⟩)), (25, .bool true)]) (by simp only [hb15]; kernel_rfl) ?_
              refine GmT.p' 9 26 (.pointer (some ⟨b12, 1, none⟩)) (by kernel_rfl) (by kernel_rfl) ?_
              refine GmT.r (i := 10) 2 (by kernel_rfl) (by kernel_rfl) (Yl.load (d := 27) (T := 3) (v := .int .i64 ((gt a0 x3).Live)) (by kernel_rfl) (ldB ty3 (l := c_Ref17Use (gt a0 x3)) (o := 1) (v := .int .i64 ((gt a0 x3).Live)) (ent_refl _) (by kernel_rfl))) hI ?_
              refine GmT.p' 11 28 (.bool (decide (((gt a0 x3).Live) > 0))) (by kernel_rfl) (by kernel_rfl) ?_
              refine GmT.p' 12 29 (.bool (decide (((gt a0 x3).Live) > 0))) (by kernel_rfl) (by kernel_rfl) ?_
              refine GmT.p' 13 30 (.bool (decide (((gt a0 x3).Live) > 0))) (by kernel_rfl) (by kernel_rfl) ?_
              by_cases hb16 : (decide (((gt a0 x3).Live) > 0)) = true
              · rw [if_pos hb16] at h3
                refine GmT.keep [0, 3, 4, 5, 30] (S' := [(0, .slice A_a0 a0.length c_a0), (3, .int .i64 x2), (4, .int .i64 x3), (5, .pointer (some ⟨b12, 0, none⟩)), (30, .bool true)]) (by simp only [hb16]; kernel_rfl) ?_
                refine GmT.p' 14 31 (.int .i64 x2) (by kernel_rfl) (by kernel_rfl) ?_
                refine GmT.p' 15 32 (.bool (decide (x2 < 0))) (by kernel_rfl) (by kernel_rfl) ?_
                refine GmT.p' 16 33 (.bool (decide (x2 < 0))) (by kernel_rfl) (by kernel_rfl) ?_
                by_cases hb17 : (decide (x2 < 0)) = true
                · rw [if_pos hb17] at h3
                  refine GmT.keep [0, 3, 4, 5, 30, 33] (S' := [(0, .slice A_a0 a0.length c_a0), (3, .int .i64 x2), (4, .int .i64 x3), (5, .pointer (some ⟨b12, 0, none⟩)), (30, .bool true), (33, .bool true)]) (by simp only [hb17]; kernel_rfl) ?_
                  refine GmT.p' 17 34 (undef) (by kernel_rfl) (by kernel_rfl) ?_
                  refine GmT.p' 18 35 (undef) (by kernel_rfl) (by kernel_rfl) ?_
                  refine GmT.p' 19 36 (undef) (by kernel_rfl) (by kernel_rfl) ?_
                  refine GmT.p' 20 37 (undef) (by kernel_rfl) (by kernel_rfl) ?_
                  refine GmT.p' 21 38 (undef) (by kernel_rfl) (by kernel_rfl) ?_
                  refine GmT.p' 22 39 (undef) (by kernel_rfl) (by kernel_rfl) ?_
                  refine GmT.p' 23 40 (undef) (by kernel_rfl) (by kernel_rfl) ?_
                  refine GmT.p' 24 41 (undef) (by kernel_rfl) (by kernel_rfl) ?_
                  refine GmT.p' 25 42 (.bool true) (by kernel_rfl) (by kernel_rfl) ?_
                  refine GmT.p' 26 43 (.bool true) (by kernel_rfl) (by kernel_rfl) ?_
                  refine GmT.done (by kernel_rfl) ?_
                  have hI := hI.drop
                  have e := someS h3
                  subst e
                  exact Qn.thenJ fun a ha => ⟨true, rfl, ha.keep [0, 3, 4, 43] (by kernel_rfl), hI⟩
                · rw [if_neg hb17] at h3
                  have hb17 : (decide (x2 < 0)) = false := by simpa using hb17
                  refine GmT.keep [0, 3, 4, 5, 30, 33] (S' := [(0, .slice A_a0 a0.length c_a0), (3, .int .i64 x2), (4, .int .i64 x3), (5, .pointer (some ⟨b12, 0, none⟩)), (30, .bool true), (33, .bool false)]) (by simp only [hb17]; kernel_rfl) ?_
                  refine GmT.p' 17 34 (.pointer (some ⟨b12, 2, none⟩)) (by kernel_rfl) (by kernel_rfl) ?_
                  refine GmT.p' 19 36 (.slice A_a0 a0.length c_a0) (by kernel_rfl) (by kernel_rfl) ?_
                  refine GmT.p' 20 37 (.int .i64 x2) (by kernel_rfl) (by kernel_rfl) ?_
                  refine GmT.r (i := 18) 2 (by kernel_rfl) (by kernel_rfl) (Yl.load (d := 35) (T := 3) (v := .int .i64 ((gt a0 x3).Worn)) (by kernel_rfl) (ldB ty3 (l := c_Ref17Use (gt a0 x3)) (o := 2) (v := .int .i64 ((gt a0 x3).Worn)) (ent_refl _) (by kernel_rfl))) hI ?_
                  obtain ⟨hg18, h3⟩ := guardS h3
                  obtain ⟨g19, o23, hA20, hr21, hl22⟩ := RdS.get hr_a0 hg18.1 hg18.2
                  refine GmT.r (i := 21) 2 (by kernel_rfl) (by kernel_rfl) (Yl.indexSlice (d := 38) (T := 37) (cc := c_a0) (k := .i64) (j := x2) (g := g19) (o := o23) (by kernel_rfl) Go.Proofs.Try.underlying37 ty61 hA20 hg18.1 hg18.2) hI ?_
                  refine GmT.p' 22 39 (.pointer (some ⟨g19, o23 + x2.toNat * 5 + 2, none⟩)) (by kernel_rfl) (by kernel_rfl) ?_
                  refine GmT.r (i := 23) 2 (by kernel_rfl) (by kernel_rfl) (Yl.load (d := 40) (T := 3) (v := .int .i64 ((gt a0 x2).Worn)) (by kernel_rfl) (ldR ty3 (v := .int .i64 ((gt a0 x2).Worn)) 2 (fun w hC => hr21 w0 w _ hC) (by kernel_rfl))) hI ?_
                  refine GmT.p' 24 41 (.bool (decide (((gt a0 x3).Worn) < ((gt a0 x2).Worn)))) (by kernel_rfl) (by kernel_rfl) ?_
                  refine GmT.p' 25 42 (.bool (decide (((gt a0 x3).Worn) < ((gt a0 x2).Worn)))) (by kernel_rfl) (by kernel_rfl) ?_
                  refine GmT.p' 26 43 (.bool (decide (((gt a0 x3).Worn) < ((gt a0 x2).Worn)))) (by kernel_rfl) (by kernel_rfl) ?_
                  refine GmT.done (by kernel_rfl) ?_
                  have hI := hI.drop
                  have e := someS h3
                  subst e
                  exact Qn.thenJ fun a ha => ⟨decide (((gt a0 x3).Worn) < ((gt a0 x2).Worn)), rfl, ha.keep [0, 3, 4, 43] (by kernel_rfl), hI⟩
              · rw [if_neg hb16] at h3
                have hb16 : (decide (((gt a0 x3).Live) > 0)) = false := by simpa using hb16
                refine GmT.keep [0, 3, 4, 5, 30] (S' := [(0, .slice A_a0 a0.length c_a0), (3, .int .i64 x2), (4, .int .i64 x3), (5, .pointer (some ⟨b12, 0, none⟩)), (30, .bool false)]) (by simp only [hb16]; kernel_rfl) ?_
                refine GmT.p' 14 31 (undef) (by kernel_rfl) (by kernel_rfl) ?_
                refine GmT.p' 15 32 (undef) (by kernel_rfl) (by kernel_rfl) ?_
                refine GmT.p' 16 33 (undef) (by kernel_rfl) (by kernel_rfl) ?_
                refine GmT.p' 17 34 (undef) (by kernel_rfl) (by kernel_rfl) ?_
                refine GmT.p' 18 35 (undef) (by kernel_rfl) (by kernel_rfl) ?_
                refine GmT.p' 19 36 (undef) (by kernel_rfl) (by kernel_rfl) ?_
                refine GmT.p' 20 37 (undef) (by kernel_rfl) (by kernel_rfl) ?_
                refine GmT.p' 21 38 (undef) (by kernel_rfl) (by kernel_rfl) ?_
                refine GmT.p' 22 39 (undef) (by kernel_rfl) (by kernel_rfl) ?_
                refine GmT.p' 23 40 (undef) (by kernel_rfl) (by kernel_rfl) ?_
                refine GmT.p' 24 41 (undef) (by kernel_rfl) (by kernel_rfl) ?_
                refine GmT.p' 25 42 (undef) (by kernel_rfl) (by kernel_rfl) ?_
                refine GmT.p' 26 43 (.bool false) (by kernel_rfl) (by kernel_rfl) ?_
                refine GmT.done (by kernel_rfl) ?_
                have hI := hI.drop
                have e := someS h3
                subst e
                exact Qn.thenJ fun a ha => ⟨false, rfl, ha.keep [0, 3, 4, 43] (by kernel_rfl), hI⟩
            · rw [if_neg hb15] at h3
              have hb15 : (!((gt a0 x3).Keep)) = false := by simpa using hb15
              refine GmT.keep [0, 3, 4, 5, 25] (S' := [(0, .slice A_a0 a0.length c_a0), (3, .int .i64 x2), (4, .int .i64 x3), (5, .pointer (some ⟨b12, 0, none⟩)), (25, .bool false)]) (by simp only [hb15]; kernel_rfl) ?_
              refine GmT.p' 9 26 (undef) (by kernel_rfl) (by kernel_rfl) ?_
              refine GmT.p' 10 27 (undef) (by kernel_rfl) (by kernel_rfl) ?_
              refine GmT.p' 11 28 (undef) (by kernel_rfl) (by kernel_rfl) ?_
              refine GmT.p' 12 29 (.bool false) (by kernel_rfl) (by kernel_rfl) ?_
              refine GmT.p' 13 30 (.bool false) (by kernel_rfl) (by kernel_rfl) ?_
              refine GmT.p' 14 31 (undef) (by kernel_rfl) (by kernel_rfl) ?_
              refine GmT.p' 15 32 (undef) (by kernel_rfl) (by kernel_rfl) ?_
              refine GmT.p' 16 33 (undef) (by kernel_rfl) (by kernel_rfl) ?_
              refine GmT.p' 17 34 (undef) (by kernel_rfl) (by kernel_rfl) ?_
              refine GmT.p' 18 35 (undef) (by kernel_rfl) (by kernel_rfl) ?_
              refine GmT.p' 19 36 (undef) (by kernel_rfl) (by kernel_rfl) ?_
              refine GmT.p' 20 37 (undef) (by kernel_rfl) (by kernel_rfl) ?_
              refine GmT.p' 21 38 (undef) (by kernel_rfl) (by kernel_rfl) ?_
              refine GmT.p' 22 39 (undef) (by kernel_rfl) (by kernel_rfl) ?_
              refine GmT.p' 23 40 (undef) (by kernel_rfl) (by kernel_rfl) ?_
              refine GmT.p' 24 41 (undef) (by kernel_rfl) (by kernel_rfl) ?_
              refine GmT.p' 25 42 (undef) (by kernel_rfl) (by kernel_rfl) ?_
              refine GmT.p' 26 43 (.bool false) (by kernel_rfl) (by kernel_rfl) ?_
              refine GmT.done (by kernel_rfl) ?_
              have hI := hI.drop
              have e := someS h3
              subst e
              exact Qn.thenJ fun a ha => ⟨false, rfl, ha.keep [0, 3, 4, 43] (by kernel_rfl), hI⟩
          · rw [if_neg hb14] at h3
            have hb14 : (!((gt a0 x3).Bad)) = false := by simpa using hb14
            refine GmT.keep [0, 3, 4, 5, 20] (S' := [(0, .slice A_a0 a0.length c_a0), (3, .int .i64 x2), (4, .int .i64 x3), (5, .pointer (some ⟨b12, 0, none⟩)), (20, .bool false)]) (by simp only [hb14]; kernel_rfl) ?_
            refine GmT.p' 4 21 (undef) (by kernel_rfl) (by kernel_rfl) ?_
            refine GmT.p' 5 22 (undef) (by kernel_rfl) (by kernel_rfl) ?_
            refine GmT.p' 6 23 (undef) (by kernel_rfl) (by kernel_rfl) ?_
            refine GmT.p' 7 24 (.bool false) (by kernel_rfl) (by kernel_rfl) ?_
            refine GmT.p' 8 25 (.bool false) (by kernel_rfl) (by kernel_rfl) ?_
            refine GmT.p' 9 26 (undef) (by kernel_rfl) (by kernel_rfl) ?_
            refine GmT.p' 10 27 (undef) (by kernel_rfl) (by kernel_rfl) ?_
            refine GmT.p' 11 28 (undef) (by kernel_rfl) (by kernel_rfl) ?_
            refine GmT.p' 12 29 (.bool false) (by kernel_rfl) (by kernel_rfl) ?_
            refine GmT.p' 13 30 (.bool false) (by kernel_rfl) (by kernel_rfl) ?_
            refine GmT.p' 14 31 (undef) (by kernel_rfl) (by kernel_rfl) ?_
            refine GmT.p' 15 32 (undef) (by kernel_rfl) (by kernel_rfl) ?_
            refine GmT.p' 16 33 (undef) (by kernel_rfl) (by kernel_rfl) ?_
            refine GmT.p' 17 34 (undef) (by kernel_rfl) (by kernel_rfl) ?_
            refine GmT.p' 18 35 (undef) (by kernel_rfl) (by kernel_rfl) ?_
            refine GmT.p' 19 36 (undef) (by kernel_rfl) (by kernel_rfl) ?_
            refine GmT.p' 20 37 (undef) (by kernel_rfl) (by kernel_rfl) ?_
            refine GmT.p' 21 38 (undef) (by kernel_rfl) (by kernel_rfl) ?_
            refine GmT.p' 22 39 (undef) (by kernel_rfl) (by kernel_rfl) ?_
            refine GmT.p' 23 40 (undef) (by kernel_rfl) (by kernel_rfl) ?_
            refine GmT.p' 24 41 (undef) (by kernel_rfl) (by kernel_rfl) ?_
            refine GmT.p' 25 42 (undef) (by kernel_rfl) (by kernel_rfl) ?_
            refine GmT.p' 26 43 (.bool false) (by kernel_rfl) (by kernel_rfl) ?_
            refine GmT.done (by kernel_rfl) ?_
            have hI := hI.drop
            have e := someS h3
            subst e
            exact Qn.thenJ fun a ha => ⟨false, rfl, ha.keep [0, 3, 4, 43] (by kernel_rfl), hI⟩
        ·
          rintro a w ⟨x13, rfl, ha, hI⟩
          try dsimp only at h2
          refine CodT.of ?_ ha
          by_cases hb24 : x13 = true
          · rw [if_pos hb24] at h2
            refine CodT.yes' (b := x13) (by kernel_rfl) hb24 ?_
            refine CodT.regionL [0, 1] (by kernel_rfl) ?_
            refine OpsT.pures (r := []) [0, 1] [0, 3, 4] (S' := [(0, .slice A_a0 a0.length c_a0), (3, .int .i64 x3), (4, .int .i64 x3)]) (by kernel_rfl) ?_
            refine OpsT.done ?_
            refine Qn.block_normal ?_
            have e := someS h2
            subst e
            exact Qn.thenJ fun a ha => ⟨x3, rfl, ha.keep [0, 3, 4] (by kernel_rfl), hI⟩
          · rw [if_neg hb24] at h2
            refine CodT.no' (b := x13) (by kernel_rfl) (by simpa using hb24) ?_
            refine CodT.skip ?_
            refine Qn.block_normal ?_
            have e := someS h2
            subst e
            exact Qn.thenJ fun a ha => ⟨x2, rfl, ha.keep [0, 3, 4] (by kernel_rfl), hI⟩
      ·
        rintro a w ⟨x5, rfl, ha, hI⟩
        try dsimp only at h1
        refine CodT.of ?_ ha
        refine CodT.regionL [0, 1, 2] (by kernel_rfl) ?_
        refine OpsT.pures (r := []) [0, 1, 2] [0, 3, 4] (S' := [(0, .slice A_a0 a0.length c_a0), (3, .int .i64 x5), (4, .int .i64 (wi64 (x3 + 1)))]) (by kernel_rfl) ?_
        refine OpsT.done ?_
        exact Qn.thenJ fun a ha => ⟨k, Nat.lt_succ_self k, x5, wi64 (x3 + 1), h1, ha.keep [0, 3, 4] (by kernel_rfl), hI⟩
    · rw [if_neg hb4] at h1
      refine CodT.no' (b := decide (x3 < (a0.length : Int))) (by kernel_rfl) (by simpa using hb4) ?_
      refine CodT.exit ?_
      refine Qn.exit_then ?_
      refine Qn.exit_then ?_
      refine Qn.block ?_
      have e := someS h1
      subst e
      exact Qn.thenJ fun a ha => ⟨x2, rfl, ha.keep [0, 3] (by kernel_rfl), hI⟩
  ·
    rintro a w ⟨x1, rfl, ha, hI⟩
    try dsimp only at h0
    refine Qn.of ?_ ha
    refine Qn.then ?_
    refine CodT.seq ?_
    refine CodT.seq ?_
    refine CodT.regionL [0] (by kernel_rfl) ?_
    refine OpsT.pures (r := []) [0] [0, 3, 6] (S' := [(0, .slice A_a0 a0.length c_a0), (3, .int .i64 x1), (6, .int .i64 0)]) (by kernel_rfl) ?_
    refine OpsT.done ?_
    refine Qn.then ?_
    obtain ⟨r1, h1, h0⟩ := bindS h0
    refine CodT.meet1 (fun a w => .inr () = r1 ∧ Fr 75 [] a ∧ Inv w0 Z w A) ?_ ?_
    ·
      refine CodT.block ?_
      refine (fun a ha => wp_loopN (fun k a w => ∃ (x25 : Int), ref17_Even.l1 a0 x1 k x25 = some r1 ∧ Fr 75 [(0, .slice A_a0 a0.length c_a0), (3, .int .i64 x1), (6, .int .i64 x25)] a ∧ Inv w0 Z w A) ?_ FU a w ⟨0, h1, ha.keep [0, 3, 6] (by kernel_rfl), hI⟩)
      clear h1 hI
      rintro k a w ⟨x25, h1, ha, hI⟩
      rcases k with _ | k
      · cases h1
      simp only [ref17_Even.l1] at h1
      refine CodT.of ?_ ha
      refine CodT.seq ?_
      obtain ⟨r2, h2, h1⟩ := bindS h1
      refine CodT.meet (fun a w => ∃ (x26 : Bool), x26 = r2 ∧ Fr 75 [(0, .slice A_a0 a0.length c_a0), (3, .int .i64 x1), (6, .int .i64 x25), (52, .bool x26)] a ∧ Inv w0 Z w A) ?_ ?_
      ·
        refine CodT.regionL [0, 1, 2, 3, 4, 5, 6, 7] (by kernel_rfl) ?_
        refine OpsT.pures (r := [5, 6, 7]) [0, 1, 2, 3, 4] [0, 3, 6, 49] (S' := [(0, .slice A_a0 a0.length c_a0), (3, .int .i64 x1), (6, .int .i64 x25), (49, .bool (decide (x25 < (a0.length : Int))))]) (by kernel_rfl) ?_
        by_cases hb27 : (decide (x25 < (a0.length : Int))) = true
        · rw [if_pos hb27] at h2
          refine OpsT.keep [0, 3, 6, 49] (S' := [(0, .slice A_a0 a0.length c_a0), (3, .int .i64 x1), (6, .int .i64 x25), (49, .bool true)]) (by simp only [hb27]; kernel_rfl) ?_
          refine OpsT.pures (r := []) [5, 6, 7] [0, 3, 6, 52] (S' := [(0, .slice A_a0 a0.length c_a0), (3, .int .i64 x1), (6, .int .i64 x25), (52, .bool (decide (x1 ≥ 0)))]) (by kernel_rfl) ?_
          refine OpsT.done ?_
          have e := someS h2
          subst e
          exact Qn.thenJ fun a ha => ⟨decide (x1 ≥ 0), rfl, ha.keep [0, 3, 6, 52] (by kernel_rfl), hI⟩
        · rw [if_neg hb27] at h2
          have hb27 : (decide (x25 < (a0.length : Int))) = false := by simpa using hb27
          refine OpsT.keep [0, 3, 6, 49] (S' := [(0, .slice A_a0 a0.length c_a0), (3, .int .i64 x1), (6, .int .i64 x25), (49, .bool false)]) (by simp only [hb27]; kernel_rfl) ?_
          refine OpsT.pures (r := []) [5, 6, 7] [0, 3, 6, 52] (S' := [(0, .slice A_a0 a0.length c_a0), (3, .int .i64 x1), (6, .int .i64 x25), (52, .bool false)]) (by kernel_rfl) ?_
          refine OpsT.done ?_
          have e := someS h2
          subst e
          exact Qn.thenJ fun a ha => ⟨false, rfl, ha.keep [0, 3, 6, 52] (by kernel_rfl), hI⟩
      ·
        rintro a w ⟨x26, rfl, ha, hI⟩
        try dsimp only at h1
        refine CodT.of ?_ ha
        by_cases hb28 : x26 = true
        · rw [if_pos hb28] at h1
          refine CodT.yes' (b := x26) (by kernel_rfl) hb28 ?_
          refine CodT.skip ?_
          refine Qn.then ?_
          refine CodT.seq ?_
          refine CodT.block ?_
          obtain ⟨r2, h2, h1⟩ := bindS h1
          refine CodT.meet (fun a w => ∃ (x29 : Bool), x29 = r2 ∧ Fr 75 [(0, .slice A_a0 a0.length c_a0), (3, .int .i64 x1), (6, .int .i64 x25), (73, .bool x29)] a ∧ Inv w0 Z w A) ?_ ?_
          ·
            refine CodT.drawI (n := 19) [] (by kernel_rfl) (by kernel_rfl) hI ?_
            intro w hI
            refine GmT.p' 0 55 (.slice A_a0 a0.length c_a0) (by kernel_rfl) (by kernel_rfl) ?_
            refine GmT.p' 1 56 (.int .i64 x25) (by kernel_rfl) (by kernel_rfl) ?_
            obtain ⟨hg30, h2⟩ := guardS h2
            obtain ⟨g31, o35, hA32, hr33, hl34⟩ := RdS.get hr_a0 hg30.1 hg30.2
            refine GmT.r (i := 2) 2 (by kernel_rfl) (by kernel_rfl) (Yl.indexSlice (d := 57) (T := 37) (cc := c_a0) (k := .i64) (j := x25) (g := g31) (o := o35) (by kernel_rfl) Go.Proofs.Try.underlying37 ty61 hA32 hg30.1 hg30.2) hI ?_
            refine GmT.r (i := 3) 2 (by kernel_rfl) (by kernel_rfl) (Yl.load (d := 58) (T := 61) (v := .agg (c_Ref17Use (gt a0 x25)).toArray) (by kernel_rfl) (ldRN ty61 (cs := c_Ref17Use (gt a0 x25)) 0 (fun w hC => hr33 w0 w _ hC) hl34 (whole _ _ hl34))) hI ?_
            obtain ⟨y37, hc36, h2⟩ := bindS h2
            try dsimp only at h2
            refine GmT.o (i := 4) (by kernel_rfl) (Does.call (d := some 59) (n := 48) (vs := [.agg (c_Ref17Use (gt a0 x25)).toArray]) (by kernel_rfl) en48 (c48 w0 w _ _ hI (gt a0 x25) _ hc36) ?_)
            rintro e w ⟨rfl, hI⟩
            refine ⟨_, rfl, ?_⟩
            refine ⟨fun _ _ => hI, ?_⟩
            refine GmT.p' 5 60 (.bool y37) (by kernel_rfl) (by kernel_rfl) ?_
            by_cases hb38 : y37 = true
            · rw [if_pos hb38] at h2
              refine GmT.keep [0, 3, 6, 60] (S' := [(0, .slice A_a0 a0.length c_a0), (3, .int .i64 x1), (6, .int .i64 x25), (60, .bool true)]) (by simp only [hb38]; kernel_rfl) ?_
              refine GmT.p' 6 61 (.slice A_a0 a0.length c_a0) (by kernel_rfl) (by kernel_rfl) ?_
              refine GmT.p' 7 62 (.int .i64 x25) (by kernel_rfl) (by kernel_rfl) ?_
              refine GmT.p' 12 67 (.slice A_a0 a0.length c_a0) (by kernel_rfl) (by kernel_rfl) ?_
              refine GmT.p' 13 68 (.int .i64 x1) (by kernel_rfl) (by kernel_rfl) ?_
              obtain ⟨hg39, h2⟩ := guardS h2
              obtain ⟨g40, o44, hA41, hr42, hl43⟩ := RdS.get hr_a0 hg39.1 hg39.2
              refine GmT.r (i := 8) 2 (by kernel_rfl) (by kernel_rfl) (Yl.indexSlice (d := 63) (T := 37) (cc := c_a0) (k := .i64) (j := x25) (g := g40) (o := o44) (by kernel_rfl) Go.Proofs.Try.underlying37 ty61 hA41 hg39.1 hg39.2) hI ?_
              refine GmT.p' 9 64 (.pointer (some ⟨g40, o44 + x25.toNat * 5 + 2, none⟩)) (by kernel_rfl) (by kernel_rfl) ?_
              refine GmT.r (i := 10) 2 (by kernel_rfl) (by kernel_rfl) (Yl.load (d := 65) (T := 3) (v := .int .i64 ((gt a0 x25).Worn)) (by kernel_rfl) (ldR ty3 (v := .int .i64 ((gt a0 x25).Worn)) 2 (fun w hC => hr42 w0 w _ hC) (by kernel_rfl))) hI ?_
              refine GmT.p' 11 66 (.int .i64 (wi64 (((gt a0 x25).Worn) - 8))) (by kernel_rfl) (by kernel_rfl) ?_
              obtain ⟨hg45, h2⟩ := guardS h2
              obtain ⟨g46, o50, hA47, hr48, hl49⟩ := RdS.get hr_a0 hg45.1 hg45.2
              refine GmT.r (i := 14) 2 (by kernel_rfl) (by kernel_rfl) (Yl.indexSlice (d := 69) (T := 37) (cc := c_a0) (k := .i64) (j := x1) (g := g46) (o := o50) (by kernel_rfl) Go.Proofs.Try.underlying37 ty61 hA47 hg45.1 hg45.2) hI ?_
              refine GmT.p' 15 70 (.pointer (some ⟨g46, o50 + x1.toNat * 5 + 2, none⟩)) (by kernel_rfl) (by kernel_rfl) ?_
              refine GmT.r (i := 16) 2 (by kernel_rfl) (by kernel_rfl) (Yl.load (d := 71) (T := 3) (v := .int .i64 ((gt a0 x1).Worn)) (by kernel_rfl) (ldR ty3 (v := .int .i64 ((gt a0 x1).Worn)) 2 (fun w hC => hr48 w0 w _ hC) (by kernel_rfl))) hI ?_
              refine GmT.p' 17 72 (.bool (decide ((wi64 (((gt a0 x25).Worn) - 8)) ≥ ((gt a0 x1).Worn)))) (by kernel_rfl) (by kernel_rfl) ?_
              refine GmT.p' 18 73 (.bool (decide ((wi64 (((gt a0 x25).Worn) - 8)) ≥ ((gt a0 x1).Worn)))) (by kernel_rfl) (by kernel_rfl) ?_
              refine GmT.done (by kernel_rfl) ?_
              have e := someS h2
              subst e
              exact Qn.thenJ fun a ha => ⟨decide ((wi64 (((gt a0 x25).Worn) - 8)) ≥ ((gt a0 x1).Worn)), rfl, ha.keep [0, 3, 6, 73] (by kernel_rfl), hI⟩
            · rw [if_neg hb38] at h2
              have hb38 : y37 = false := by simpa using hb38
              refine GmT.keep [0, 3, 6, 60] (S' := [(0, .slice A_a0 a0.length c_a0), (3, .int .i64 x1), (6, .int .i64 x25), (60, .bool false)]) (by simp only [hb38]; kernel_rfl) ?_
              refine GmT.p' 6 61 (undef) (by kernel_rfl) (by kernel_rfl) ?_
              refine GmT.p' 7 62 (undef) (by kernel_rfl) (by kernel_rfl) ?_
              refine GmT.p' 8 63 (undef) (by kernel_rfl) (by kernel_rfl) ?_
              refine GmT.p' 9 64 (undef) (by kernel_rfl) (by kernel_rfl) ?_
              refine GmT.p' 10 65 (undef) (by kernel_rfl) (by kernel_rfl) ?_
              refine GmT.p' 11 66 (undef) (by kernel_rfl) (by kernel_rfl) ?_
              refine GmT.p' 12 67 (undef) (by kernel_rfl) (by kernel_rfl) ?_
              refine GmT.p' 13 68 (undef) (by kernel_rfl) (by kernel_rfl) ?_
              refine GmT.p' 14 69 (undef) (by kernel_rfl) (by kernel_rfl) ?_
              refine GmT.p' 15 70 (undef) (by kernel_rfl) (by kernel_rfl) ?_
              refine GmT.p' 16 71 (undef) (by kernel_rfl) (by kernel_rfl) ?_
              refine GmT.p' 17 72 (undef) (by kernel_rfl) (by kernel_rfl) ?_
              refine GmT.p' 18 73 (.bool false) (by kernel_rfl) (by kernel_rfl) ?_
              refine GmT.done (by kernel_rfl) ?_
              have e := someS h2
              subst e
              exact Qn.thenJ fun a ha => ⟨false, rfl, ha.keep [0, 3, 6, 73] (by kernel_rfl), hI⟩
          ·
            rintro a w ⟨x29, rfl, ha, hI⟩
            try dsimp only at h1
            refine CodT.of ?_ ha
            by_cases hb51 : x29 = true
            · rw [if_pos hb51] at h1
              refine CodT.yes' (b := x29) (by kernel_rfl) hb51 ?_
              refine CodT.seq ?_
              refine CodT.regionL [0, 1] (by kernel_rfl) ?_
              refine OpsT.pures (r := []) [0, 1] [2] (S' := [(2, .int .i64 x1)]) (by kernel_rfl) ?_
              refine OpsT.done ?_
              refine Qn.then ?_
              refine CodT.ret ?_
              refine Qn.block_ret ?_
              refine Qn.ret_then ?_
              refine Qn.ret_then ?_
              refine Qn.block_ret ?_
              refine Qn.ret_then ?_
              refine Qn.ret_then ?_
              have e := someS h1
              subst e
              try dsimp only at h0
              have e := someS h0
              subst e
              refine Qn.keep [2] (S' := [(2, .int .i64 x1)]) (by kernel_rfl) ?_
              exact post_ret (v := .int .i64 x1) (fun a ha => RunRes.run (vs := [.int .i64 x1]) (.tmp (t := 2) (by kernel_rfl) .nil) ha (by kernel_rfl)) ⟨rfl, hI⟩
            · rw [if_neg hb51] at h1
              refine CodT.no' (b := x29) (by kernel_rfl) (by simpa using hb51) ?_
              refine CodT.skip ?_
              refine Qn.block_normal ?_
              refine Qn.then ?_
              refine CodT.regionL [0, 1, 2] (by kernel_rfl) ?_
              refine OpsT.pures (r := []) [0, 1, 2] [0, 3, 6] (S' := [(0, .slice A_a0 a0.length c_a0), (3, .int .i64 x1), (6, .int .i64 (wi64 (x25 + 1)))]) (by kernel_rfl) ?_
              refine OpsT.done ?_
              exact Qn.thenJ fun a ha => ⟨k, Nat.lt_succ_self k, wi64 (x25 + 1), h1, ha.keep [0, 3, 6] (by kernel_rfl), hI⟩
        · rw [if_neg hb28] at h1
          refine CodT.no' (b := x26) (by kernel_rfl) (by simpa using hb28) ?_
          refine CodT.exit ?_
          refine Qn.exit_then ?_
          refine Qn.exit_then ?_
          refine Qn.block ?_
          have e := someS h1
          subst e
          exact Qn.thenJ fun a ha => ⟨rfl, ha.keep [] (by kernel_rfl), hI⟩
    ·
      rintro a w ⟨rfl, ha, hI⟩
      try dsimp only at h0
      refine Qn.of ?_ ha
      refine Qn.then ?_
      refine CodT.seq ?_
      refine CodT.regionL [0] (by kernel_rfl) ?_
      refine OpsT.pures (r := []) [0] [2] (S' := [(2, .int .i64 (-1))]) (by kernel_rfl) ?_
      refine OpsT.done ?_
      refine Qn.then ?_
      refine CodT.ret ?_
      have e := someS h0
      subst e
      refine Qn.keep [2] (S' := [(2, .int .i64 (-1))]) (by kernel_rfl) ?_
      exact post_ret (v := .int .i64 (-1)) (fun a ha => RunRes.run (vs := [.int .i64 (-1)]) (.tmp (t := 2) (by kernel_rfl) .nil) ha (by kernel_rfl)) ⟨rfl, hI⟩
end Go.Cen
