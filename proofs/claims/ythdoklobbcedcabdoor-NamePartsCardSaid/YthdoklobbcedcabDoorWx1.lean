/- That the machine computes these: walks, printed by a program of ours. -/
import Derived.Test.YthdoklobbcedcabDoorPx
import Derived.Test.YthdoklobbcedcabDoorWx0
set_option linter.unusedVariables false
set_option linter.unusedSimpArgs false
namespace Go.Cen
set_option maxRecDepth 100000 in
set_option maxHeartbeats 4000000 in
/-- cenotaph/cenotaphlaw03.works -/
theorem c8 (w0 w : World) (Z : Hp) (A : HP) (hI : Inv w0 Z w A) (hT : Tabs Z)  (r : Bool) (h0 : law03_works = some r) :
    Calls prog 8 #[] w (fun e w' => e = .returned (.bool r) ∧ Inv w0 Z w' A) := by
  have e4 := calls_intro (R := (fun e w' => e = .returned (.bool r) ∧ Inv w0 Z w' A)) (w := w) (args := []) (fn := Go.Proofs.Tryd.f8) 49 Go.Proofs.Tryd.func8 (by rfl) Go.Proofs.Tryd.ntmps8 (by kernel_rfl)
  refine e4 ?_
  clear e4
  unfold law03_works at h0
  refine CodT.seq ?_
  refine CodT.regionL [0] (by kernel_rfl) ?_
  refine OpsT.pures (r := []) [0] [] (S' := []) (by kernel_rfl) ?_
  refine OpsT.done ?_
  refine Qn.then ?_
  refine CodT.seq ?_
  refine CodT.regionL [0, 1, 2, 3, 4, 5] (by kernel_rfl) ?_
  refine OpsT.cons (Does.buildSlice (en := (cI .u8)) (d := 4) (n := 1) (T := 32) (ps := [(0, .int .u8 34)]) ([34] : List Int) (by kernel_rfl) Go.Proofs.Tryd.underlying32 ty5 (by kernel_rfl) (by kernel_rfl) (by kernel_rfl) (by kernel_rfl) (len_all (fun _ => rfl)) hI ?_)
  intro b1 w hI
  refine OpsT.cons (Does.b2sOwn (d := 5) (src := 32) (dst := 9) (xs := ([34] : List Int)) (by kernel_rfl) Go.Proofs.Tryd.underlying32 Go.Proofs.Tryd.underlying5 Go.Proofs.Tryd.underlying9 hI ?_)
  obtain ⟨hg2, h0⟩ := guardS h0
  refine OpsT.cons (Does.yi (Yl.cat (d := 6) (T := 9) (x := (⟨#[97]⟩ : ByteArray)) (y := strOfNums ([34] : List Int)) (by kernel_rfl) hg2) hI ?_)
  obtain ⟨hg3, h0⟩ := guardS h0
  refine OpsT.cons (Does.yi (Yl.cat (d := 7) (T := 9) (x := (⟨#[97]⟩ : ByteArray) ++ (strOfNums ([34] : List Int))) (y := (⟨#[98]⟩ : ByteArray)) (by kernel_rfl) hg3) hI ?_)
  obtain ⟨y5, hc4, h0⟩ := bindS h0
  try dsimp only at h0
  refine OpsT.cons (Does.call (d := some 8) (n := 9) (vs := [.string (((⟨#[97]⟩ : ByteArray) ++ (strOfNums ([34] : List Int))) ++ (⟨#[98]⟩ : ByteArray))]) (by kernel_rfl) en9 (c9 w0 w _ _ hI hT (((⟨#[97]⟩ : ByteArray) ++ (strOfNums ([34] : List Int))) ++ (⟨#[98]⟩ : ByteArray)) _ hc4) ?_)
  rintro e w ⟨rfl, hI⟩
  refine ⟨_, rfl, ?_⟩
  refine OpsT.pures (r := []) [5] [1] (S' := [(1, .string y5)]) (by kernel_rfl) ?_
  refine OpsT.done ?_
  refine Qn.then ?_
  refine CodT.seq ?_
  refine CodT.regionL [0, 1, 2, 3, 4, 5, 6] (by kernel_rfl) ?_
  refine OpsT.pures (r := [1, 2, 3, 4, 5, 6]) [0] [1, 10] (S' := [(1, .string y5), (10, .string y5)]) (by kernel_rfl) ?_
  obtain ⟨⟨y7, y8⟩, hc6, h0⟩ := bindS h0
  try dsimp only at h0
  refine OpsT.cons (Does.call (d := some 11) (n := 10) (vs := [.string y5]) (by kernel_rfl) en10 (c10 w0 w _ _ hI hT y5 _ hc6) ?_)
  rintro e w ⟨rfl, hI⟩
  refine ⟨_, rfl, ?_⟩
  refine OpsT.pures (r := []) [2, 3, 4, 5, 6] [1, 2, 3] (S' := [(1, .string y5), (2, .string y7), (3, .bool y8)]) (by kernel_rfl) ?_
  refine OpsT.done ?_
  refine Qn.then ?_
  obtain ⟨r1, h1, h0⟩ := bindS h0
  refine CodT.meet (fun a w => ∃ (x9 : Bool), x9 = r1 ∧ Fr 49 [(0, .bool x9)] a ∧ Inv w0 Z w A) ?_ ?_
  ·
    refine CodT.regionL [0, 1, 2, 3, 4, 5, 6, 7, 8, 9, 10, 11, 12, 13, 14, 15, 16, 17, 18, 19, 20, 21, 22, 23, 24, 25, 26, 27, 28, 29, 30, 31, 32, 33, 34, 35] (by kernel_rfl) ?_
    refine OpsT.pures (r := [1, 2, 3, 4, 5, 6, 7, 8, 9, 10, 11, 12, 13, 14, 15, 16, 17, 18, 19, 20, 21, 22, 23, 24, 25, 26, 27, 28, 29, 30, 31, 32, 33, 34, 35]) [0] [2, 3, 14] (S' := [(2, .string y7), (3, .bool y8), (14, .string y5)]) (by kernel_rfl) ?_
    refine OpsT.cons (Does.buildSlice (en := (cI .u8)) (d := 15) (n := 6) (T := 32) (ps := [(0, .int .u8 34), (1, .int .u8 97), (2, .int .u8 92), (3, .int .u8 34), (4, .int .u8 98), (5, .int .u8 34)]) ([34, 97, 92, 34, 98, 34] : List Int) (by kernel_rfl) Go.Proofs.Tryd.underlying32 ty5 (by kernel_rfl) (by kernel_rfl) (by kernel_rfl) (by kernel_rfl) (len_all (fun _ => rfl)) hI ?_)
    intro b10 w hI
    refine OpsT.cons (Does.b2sOwn (d := 16) (src := 32) (dst := 9) (xs := ([34, 97, 92, 34, 98, 34] : List Int)) (by kernel_rfl) Go.Proofs.Tryd.underlying32 Go.Proofs.Tryd.underlying5 Go.Proofs.Tryd.underlying9 hI ?_)
    refine OpsT.pures (r := [5, 6, 7, 8, 9, 10, 11, 12, 13, 14, 15, 16, 17, 18, 19, 20, 21, 22, 23, 24, 25, 26, 27, 28, 29, 30, 31, 32, 33, 34, 35]) [3, 4] [2, 3, 18] (S' := [(2, .string y7), (3, .bool y8), (18, .bool (seq y5 (strOfNums ([34, 97, 92, 34, 98, 34] : List Int))))]) (by kernel_rfl) ?_
    by_cases hb11 : (seq y5 (strOfNums ([34, 97, 92, 34, 98, 34] : List Int))) = true
    · rw [if_pos hb11] at h1
      refine OpsT.keep [2, 3, 18] (S' := [(2, .string y7), (3, .bool y8), (18, .bool true)]) (by simp only [hb11]; kernel_rfl) ?_
      refine OpsT.pures (r := [6, 7, 8, 9, 10, 11, 12, 13, 14, 15, 16, 17, 18, 19, 20, 21, 22, 23, 24, 25, 26, 27, 28, 29, 30, 31, 32, 33, 34, 35]) [5] [3, 18, 19] (S' := [(3, .bool y8), (18, .bool true), (19, .string y7)]) (by kernel_rfl) ?_
      refine OpsT.cons (Does.buildSlice (en := (cI .u8)) (d := 20) (n := 1) (T := 32) (ps := [(0, .int .u8 34)]) ([34] : List Int) (by kernel_rfl) Go.Proofs.Tryd.underlying32 ty5 (by kernel_rfl) (by kernel_rfl) (by kernel_rfl) (by kernel_rfl) (len_all (fun _ => rfl)) hI ?_)
      intro b12 w hI
      refine OpsT.cons (Does.b2sOwn (d := 21) (src := 32) (dst := 9) (xs := ([34] : List Int)) (by kernel_rfl) Go.Proofs.Tryd.underlying32 Go.Proofs.Tryd.underlying5 Go.Proofs.Tryd.underlying9 hI ?_)
      obtain ⟨hg13, h1⟩ := guardS h1
      refine OpsT.cons (Does.yi (Yl.cat (d := 22) (T := 9) (x := (⟨#[97]⟩ : ByteArray)) (y := strOfNums ([34] : List Int)) (by kernel_rfl) hg13) hI ?_)
      obtain ⟨hg14, h1⟩ := guardS h1
      refine OpsT.cons (Does.yi (Yl.cat (d := 23) (T := 9) (x := (⟨#[97]⟩ : ByteArray) ++ (strOfNums ([34] : List Int))) (y := (⟨#[98]⟩ : ByteArray)) (by kernel_rfl) hg14) hI ?_)
      refine OpsT.pures (r := [13, 14, 15, 16, 17, 18, 19, 20, 21, 22, 23, 24, 25, 26, 27, 28, 29, 30, 31, 32, 33, 34, 35]) [10, 11, 12] [3, 26] (S' := [(3, .bool y8), (26, .bool (seq y7 (((⟨#[97]⟩ : ByteArray) ++ (strOfNums ([34] : List Int))) ++ (⟨#[98]⟩ : ByteArray))))]) (by kernel_rfl) ?_
      by_cases hb15 : (seq y7 (((⟨#[97]⟩ : ByteArray) ++ (strOfNums ([34] : List Int))) ++ (⟨#[98]⟩ : ByteArray))) = true
      · rw [if_pos hb15] at h1
        refine OpsT.keep [3, 26] (S' := [(3, .bool y8), (26, .bool true)]) (by simp only [hb15]; kernel_rfl) ?_
        refine OpsT.pures (r := [16, 17, 18, 19, 20, 21, 22, 23, 24, 25, 26, 27, 28, 29, 30, 31, 32, 33, 34, 35]) [13, 14, 15] [29] (S' := [(29, .bool y8)]) (by kernel_rfl) ?_
        by_cases hb16 : y8 = true
        · rw [if_pos hb16] at h1
          refine OpsT.keep [29] (S' := [(29, .bool true)]) (by simp only [hb16]; kernel_rfl) ?_
          obtain ⟨y18, hc17, h1⟩ := bindS h1
          try dsimp only at h1
          refine OpsT.cons (Does.call (d := some 30) (n := 14) (vs := [.string (⟨#[120, 32, 121]⟩ : ByteArray)]) (by kernel_rfl) en14 (c14 w0 w _ _ hI hT (⟨#[120, 32, 121]⟩ : ByteArray) _ hc17) ?_)
          rintro e w ⟨rfl, hI⟩
          refine ⟨_, rfl, ?_⟩
          refine OpsT.pures (r := [19, 20, 21, 22, 23, 24, 25, 26, 27, 28, 29, 30, 31, 32, 33, 34, 35]) [17, 18] [32] (S' := [(32, .bool y18)]) (by kernel_rfl) ?_
          by_cases hb19 : y18 = true
          · rw [if_pos hb19] at h1
            refine OpsT.keep [32] (S' := [(32, .bool true)]) (by simp only [hb19]; kernel_rfl) ?_
            obtain ⟨y21, hc20, h1⟩ := bindS h1
            try dsimp only at h1
            refine OpsT.cons (Does.call (d := some 33) (n := 14) (vs := [.string (⟨#[32, 120]⟩ : ByteArray)]) (by kernel_rfl) en14 (c14 w0 w _ _ hI hT (⟨#[32, 120]⟩ : ByteArray) _ hc20) ?_)
            rintro e w ⟨rfl, hI⟩
            refine ⟨_, rfl, ?_⟩
            refine OpsT.pures (r := [23, 24, 25, 26, 27, 28, 29, 30, 31, 32, 33, 34, 35]) [20, 21, 22] [36] (S' := [(36, .bool (!y21))]) (by kernel_rfl) ?_
            by_cases hb22 : (!y21) = true
            · rw [if_pos hb22] at h1
              refine OpsT.keep [36] (S' := [(36, .bool true)]) (by simp only [hb22]; kernel_rfl) ?_
              refine OpsT.cons (Does.buildSlice (en := (cI .u8)) (d := 37) (n := 3) (T := 32) (ps := [(0, .int .u8 195), (1, .int .u8 169), (2, .int .u8 255)]) ([195, 169, 255] : List Int) (by kernel_rfl) Go.Proofs.Tryd.underlying32 ty5 (by kernel_rfl) (by kernel_rfl) (by kernel_rfl) (by kernel_rfl) (len_all (fun _ => rfl)) hI ?_)
              intro b23 w hI
              refine OpsT.cons (Does.b2sOwn (d := 38) (src := 32) (dst := 9) (xs := ([195, 169, 255] : List Int)) (by kernel_rfl) Go.Proofs.Tryd.underlying32 Go.Proofs.Tryd.underlying5 Go.Proofs.Tryd.underlying9 hI ?_)
              obtain ⟨y25, hc24, h1⟩ := bindS h1
              try dsimp only at h1
              refine OpsT.cons (Does.call (d := some 39) (n := 13) (vs := [.string (strOfNums ([195, 169, 255] : List Int))]) (by kernel_rfl) en13 (c13 w0 w _ _ hI hT (strOfNums ([195, 169, 255] : List Int)) _ hc24) ?_)
              rintro e w ⟨rfl, hI⟩
              refine ⟨_, rfl, ?_⟩
              refine OpsT.pures (r := [29, 30, 31, 32, 33, 34, 35]) [26, 27, 28] [42] (S' := [(42, .bool (y25 == 2))]) (by kernel_rfl) ?_
              by_cases hb26 : (y25 == 2) = true
              · rw [if_pos hb26] at h1
                refine OpsT.keep [42] (S' := [(42, .bool true)]) (by simp only [hb26]; kernel_rfl) ?_
                obtain ⟨y28, hc27, h1⟩ := bindS h1
                try dsimp only at h1
                refine OpsT.cons (Does.call (d := some 43) (n := 12) (vs := [.string (⟨#[97]⟩ : ByteArray), .string (⟨#[98]⟩ : ByteArray)]) (by kernel_rfl) en12 (c12 w0 w _ _ hI hT (⟨#[97]⟩ : ByteArray) (⟨#[98]⟩ : ByteArray) _ hc27) ?_)
                rintro e w ⟨rfl, hI⟩
                refine ⟨_, rfl, ?_⟩
                refine OpsT.pures (r := [32, 33, 34, 35]) [30, 31] [45] (S' := [(45, .bool y28)]) (by kernel_rfl) ?_
                by_cases hb29 : y28 = true
                · rw [if_pos hb29] at h1
                  refine OpsT.keep [45] (S' := [(45, .bool true)]) (by simp only [hb29]; kernel_rfl) ?_
                  obtain ⟨y31, hc30, h1⟩ := bindS h1
                  try dsimp only at h1
                  refine OpsT.cons (Does.call (d := some 46) (n := 12) (vs := [.string (⟨#[98]⟩ : ByteArray), .string (⟨#[97]⟩ : ByteArray)]) (by kernel_rfl) en12 (c12 w0 w _ _ hI hT (⟨#[98]⟩ : ByteArray) (⟨#[97]⟩ : ByteArray) _ hc30) ?_)
                  rintro e w ⟨rfl, hI⟩
                  refine ⟨_, rfl, ?_⟩
                  refine OpsT.pures (r := []) [33, 34, 35] [0] (S' := [(0, .bool (!y31))]) (by kernel_rfl) ?_
                  refine OpsT.done ?_
                  have hI := hI.drop
                  have hI := hI.drop
                  have hI := hI.drop
                  have hI := hI.drop
                  have e := someS h1
                  subst e
                  exact Qn.thenJ fun a ha => ⟨!y31, rfl, ha.keep [0] (by kernel_rfl), hI⟩
                · rw [if_neg hb29] at h1
                  have hb29 : y28 = false := by simpa using hb29
                  refine OpsT.keep [45] (S' := [(45, .bool false)]) (by simp only [hb29]; kernel_rfl) ?_
                  refine OpsT.pures (r := []) [32, 33, 34, 35] [0] (S' := [(0, .bool false)]) (by kernel_rfl) ?_
                  refine OpsT.done ?_
                  have hI := hI.drop
                  have hI := hI.drop
                  have hI := hI.drop
                  have hI := hI.drop
                  have e := someS h1
                  subst e
                  exact Qn.thenJ fun a ha => ⟨false, rfl, ha.keep [0] (by kernel_rfl), hI⟩
              · rw [if_neg hb26] at h1
                have hb26 : (y25 == 2) = false := by simpa using hb26
                refine OpsT.keep [42] (S' := [(42, .bool false)]) (by simp only [hb26]; kernel_rfl) ?_
                refine OpsT.pures (r := []) [29, 30, 31, 32, 33, 34, 35] [0] (S' := [(0, .bool false)]) (by kernel_rfl) ?_
                refine OpsT.done ?_
                have hI := hI.drop
                have hI := hI.drop
                have hI := hI.drop
                have hI := hI.drop
                have e := someS h1
                subst e
                exact Qn.thenJ fun a ha => ⟨false, rfl, ha.keep [0] (by kernel_rfl), hI⟩
            · rw [if_neg hb22] at h1
              have hb22 : (!y21) = false := by simpa using hb22
              refine OpsT.keep [36] (S' := [(36, .bool false)]) (by simp only [hb22]; kernel_rfl) ?_
              refine OpsT.pures (r := []) [23, 24, 25, 26, 27, 28, 29, 30, 31, 32, 33, 34, 35] [0] (S' := [(0, .bool false)]) (by kernel_rfl) ?_
              refine OpsT.done ?_
              have hI := hI.drop
              have hI := hI.drop
              have hI := hI.drop
              have e := someS h1
              subst e
              exact Qn.thenJ fun a ha => ⟨false, rfl, ha.keep [0] (by kernel_rfl), hI⟩
          · rw [if_neg hb19] at h1
            have hb19 : y18 = false := by simpa using hb19
            refine OpsT.keep [32] (S' := [(32, .bool false)]) (by simp only [hb19]; kernel_rfl) ?_
            refine OpsT.pures (r := []) [19, 20, 21, 22, 23, 24, 25, 26, 27, 28, 29, 30, 31, 32, 33, 34, 35] [0] (S' := [(0, .bool false)]) (by kernel_rfl) ?_
            refine OpsT.done ?_
            have hI := hI.drop
            have hI := hI.drop
            have hI := hI.drop
            have e := someS h1
            subst e
            exact Qn.thenJ fun a ha => ⟨false, rfl, ha.keep [0] (by kernel_rfl), hI⟩
        · rw [if_neg hb16] at h1
          have hb16 : y8 = false := by simpa using hb16
          refine OpsT.keep [29] (S' := [(29, .bool false)]) (by simp only [hb16]; kernel_rfl) ?_
          refine OpsT.pures (r := []) [16, 17, 18, 19, 20, 21, 22, 23, 24, 25, 26, 27, 28, 29, 30, 31, 32, 33, 34, 35] [0] (S' := [(0, .bool false)]) (by kernel_rfl) ?_
          refine OpsT.done ?_
          have hI := hI.drop
          have hI := hI.drop
          have hI := hI.drop
          have e := someS h1
          subst e
          exact Qn.thenJ fun a ha => ⟨false, rfl, ha.keep [0] (by kernel_rfl), hI⟩
      · rw [if_neg hb15] at h1
        have hb15 : (seq y7 (((⟨#[97]⟩ : ByteArray) ++ (strOfNums ([34] : List Int))) ++ (⟨#[98]⟩ : ByteArray))) = false := by simpa using hb15
        refine OpsT.keep [3, 26] (S' := [(3, .bool y8), (26, .bool false)]) (by simp only [hb15]; kernel_rfl) ?_
        refine OpsT.pures (r := []) [13, 14, 15, 16, 17, 18, 19, 20, 21, 22, 23, 24, 25, 26, 27, 28, 29, 30, 31, 32, 33, 34, 35] [0] (S' := [(0, .bool false)]) (by kernel_rfl) ?_
        refine OpsT.done ?_
        have hI := hI.drop
        have hI := hI.drop
        have hI := hI.drop
        have e := someS h1
        subst e
        exact Qn.thenJ fun a ha => ⟨false, rfl, ha.keep [0] (by kernel_rfl), hI⟩
    · rw [if_neg hb11] at h1
      have hb11 : (seq y5 (strOfNums ([34, 97, 92, 34, 98, 34] : List Int))) = false := by simpa using hb11
      refine OpsT.keep [2, 3, 18] (S' := [(2, .string y7), (3, .bool y8), (18, .bool false)]) (by simp only [hb11]; kernel_rfl) ?_
      refine OpsT.pures (r := []) [5, 6, 7, 8, 9, 10, 11, 12, 13, 14, 15, 16, 17, 18, 19, 20, 21, 22, 23, 24, 25, 26, 27, 28, 29, 30, 31, 32, 33, 34, 35] [0] (S' := [(0, .bool false)]) (by kernel_rfl) ?_
      refine OpsT.done ?_
      have hI := hI.drop
      have hI := hI.drop
      have e := someS h1
      subst e
      exact Qn.thenJ fun a ha => ⟨false, rfl, ha.keep [0] (by kernel_rfl), hI⟩
  ·
    rintro a w ⟨x9, rfl, ha, hI⟩
    try dsimp only at h0
    refine CodT.of ?_ ha
    refine CodT.ret ?_
    have e := someS h0
    subst e
    refine Qn.keep [0] (S' := [(0, .bool x9)]) (by kernel_rfl) ?_
    exact post_ret (v := .bool x9) (fun a ha => RunRes.run (vs := [.bool x9]) (.tmp (t := 0) (by kernel_rfl) .nil) ha (by kernel_rfl)) ⟨rfl, hI⟩
set_option maxRecDepth 100000 in
set_option maxHeartbeats 4000000 in
/-- cenotaph/cenotaphref03.Rune -/
theorem c23 (w0 w : World) (Z : Hp) (A : HP) (hI : Inv w0 Z w A) (hT : Tabs Z) (a0 : ByteArray) (r : (Int × Int)) (h0 : ref03_Rune a0 = some r) :
    Calls prog 23 #[.string a0] w (fun e w' => e = .returned (.tuple #[.int .i64 r.1, .int .i64 r.2]) ∧ Inv w0 Z w' A) := by
  have e4 := calls_intro (R := (fun e w' => e = .returned (.tuple #[.int .i64 r.1, .int .i64 r.2]) ∧ Inv w0 Z w' A)) (w := w) (args := [.string a0]) (fn := Go.Proofs.Tryd.f23) 85 Go.Proofs.Tryd.func23 (by rfl) Go.Proofs.Tryd.ntmps23 (by kernel_rfl)
  refine e4 ?_
  clear e4
  unfold ref03_Rune at h0
  refine CodT.seq ?_
  refine CodT.regionL [0, 1] (by kernel_rfl) ?_
  refine OpsT.pures (r := []) [0, 1] [0] (S' := [(0, .string a0)]) (by kernel_rfl) ?_
  refine OpsT.done ?_
  refine Qn.then ?_
  refine CodT.seq ?_
  refine CodT.regionL [0, 1, 2, 3] (by kernel_rfl) ?_
  refine OpsT.pures (r := [1, 2, 3]) [0] [0, 10] (S' := [(0, .string a0), (10, .string a0)]) (by kernel_rfl) ?_
  obtain ⟨hg1, h0⟩ := guardS h0
  refine OpsT.cons (Does.yi (Yl.indexStr (d := 11) (T := 9) (k := .i64) (j := 0) (s := a0) (by kernel_rfl) Go.Proofs.Tryd.underlying9 hg1.1 hg1.2) hI ?_)
  refine OpsT.pures (r := []) [2, 3] [0, 4] (S' := [(0, .string a0), (4, .int .i64 (wi64 (bt a0 0)))]) (by kernel_rfl) ?_
  refine OpsT.done ?_
  refine Qn.then ?_
  refine CodT.seq ?_
  refine CodT.seq ?_
  refine CodT.regionL [0, 1] (by kernel_rfl) ?_
  refine OpsT.pures (r := []) [0, 1] [0, 4, 14] (S' := [(0, .string a0), (4, .int .i64 (wi64 (bt a0 0))), (14, .bool (decide ((wi64 (bt a0 0)) < 128)))]) (by kernel_rfl) ?_
  refine OpsT.done ?_
  refine Qn.then ?_
  by_cases hb2 : (decide ((wi64 (bt a0 0)) < 128)) = true
  · rw [if_pos hb2] at h0
    refine CodT.yes' (b := decide ((wi64 (bt a0 0)) < 128)) (by kernel_rfl) hb2 ?_
    refine CodT.seq ?_
    refine CodT.regionL [0, 1, 2] (by kernel_rfl) ?_
    refine OpsT.pures (r := []) [0, 1, 2] [2, 3] (S' := [(2, .int .i64 (wi64 (bt a0 0))), (3, .int .i64 1)]) (by kernel_rfl) ?_
    refine OpsT.done ?_
    refine Qn.then ?_
    refine CodT.ret ?_
    refine Qn.ret_then ?_
    have e := someS h0
    subst e
    refine Qn.keep [2, 3] (S' := [(2, .int .i64 (wi64 (bt a0 0))), (3, .int .i64 1)]) (by kernel_rfl) ?_
    exact post_ret (v := .tuple #[.int .i64 (wi64 (bt a0 0)), .int .i64 1]) (fun a ha => RunRes.run (vs := [.int .i64 (wi64 (bt a0 0)), .int .i64 1]) (.tmp (t := 2) (by kernel_rfl) (.tmp (t := 3) (by kernel_rfl) .nil)) ha (by kernel_rfl)) ⟨rfl, hI⟩
  · rw [if_neg hb2] at h0
    refine CodT.no' (b := decide ((wi64 (bt a0 0)) < 128)) (by kernel_rfl) (by simpa using hb2) ?_
    refine CodT.skip ?_
    refine Qn.then ?_
    refine CodT.seq ?_
    refine CodT.regionL [0] (by kernel_rfl) ?_
    refine OpsT.pures (r := []) [0] [0, 4, 5] (S' := [(0, .string a0), (4, .int .i64 (wi64 (bt a0 0))), (5, .int .i64 0)]) (by kernel_rfl) ?_
    refine OpsT.done ?_
    refine Qn.then ?_
    refine CodT.seq ?_
    refine CodT.regionL [0] (by kernel_rfl) ?_
    refine OpsT.pures (r := []) [0] [0, 4, 5, 6] (S' := [(0, .string a0), (4, .int .i64 (wi64 (bt a0 0))), (5, .int .i64 0), (6, .int .i64 0)]) (by kernel_rfl) ?_
    refine OpsT.done ?_
    refine Qn.then ?_
    refine CodT.seq ?_
    refine CodT.regionL [0] (by kernel_rfl) ?_
    refine OpsT.pures (r := []) [0] [0, 4, 5, 6, 7] (S' := [(0, .string a0), (4, .int .i64 (wi64 (bt a0 0))), (5, .int .i64 0), (6, .int .i64 0), (7, .int .i64 0)]) (by kernel_rfl) ?_
    refine OpsT.done ?_
    refine Qn.then ?_
    obtain ⟨r1, h1, h0⟩ := bindS h0
    refine CodT.meet (fun a w => ∃ (x3 : Int) (x4 : Int) (x5 : Int), (x3, x4, x5) = r1 ∧ Fr 85 [(0, .string a0), (5, .int .i64 x3), (6, .int .i64 x4), (7, .int .i64 x5)] a ∧ Inv w0 Z w A) ?_ ?_
    ·
      obtain ⟨r2, h2, h1⟩ := bindS h1
      refine CodT.meet (fun a w => ∃ (x6 : Bool), x6 = r2 ∧ Fr 85 [(0, .string a0), (4, .int .i64 (wi64 (bt a0 0))), (5, .int .i64 0), (6, .int .i64 0), (7, .int .i64 0), (21, .bool x6)] a ∧ Inv w0 Z w A) ?_ ?_
      ·
        refine CodT.regionL [0, 1, 2, 3, 4, 5] (by kernel_rfl) ?_
        refine OpsT.pures (r := [3, 4, 5]) [0, 1, 2] [0, 4, 5, 6, 7, 18] (S' := [(0, .string a0), (4, .int .i64 (wi64 (bt a0 0))), (5, .int .i64 0), (6, .int .i64 0), (7, .int .i64 0), (18, .bool (decide ((wi64 (bt a0 0)) ≥ 194)))]) (by kernel_rfl) ?_
        by_cases hb7 : (decide ((wi64 (bt a0 0)) ≥ 194)) = true
        · rw [if_pos hb7] at h2
          refine OpsT.keep [0, 4, 5, 6, 7, 18] (S' := [(0, .string a0), (4, .int .i64 (wi64 (bt a0 0))), (5, .int .i64 0), (6, .int .i64 0), (7, .int .i64 0), (18, .bool true)]) (by simp only [hb7]; kernel_rfl) ?_
          refine OpsT.pures (r := []) [3, 4, 5] [0, 4, 5, 6, 7, 21] (S' := [(0, .string a0), (4, .int .i64 (wi64 (bt a0 0))), (5, .int .i64 0), (6, .int .i64 0), (7, .int .i64 0), (21, .bool (decide ((wi64 (bt a0 0)) < 224)))]) (by kernel_rfl) ?_
          refine OpsT.done ?_
          have e := someS h2
          subst e
          exact Qn.thenJ fun a ha => ⟨decide ((wi64 (bt a0 0)) < 224), rfl, ha.keep [0, 4, 5, 6, 7, 21] (by kernel_rfl), hI⟩
        · rw [if_neg hb7] at h2
          have hb7 : (decide ((wi64 (bt a0 0)) ≥ 194)) = false := by simpa using hb7
          refine OpsT.keep [0, 4, 5, 6, 7, 18] (S' := [(0, .string a0), (4, .int .i64 (wi64 (bt a0 0))), (5, .int .i64 0), (6, .int .i64 0), (7, .int .i64 0), (18, .bool false)]) (by simp only [hb7]; kernel_rfl) ?_
          refine OpsT.pures (r := []) [3, 4, 5] [0, 4, 5, 6, 7, 21] (S' := [(0, .string a0), (4, .int .i64 (wi64 (bt a0 0))), (5, .int .i64 0), (6, .int .i64 0), (7, .int .i64 0), (21, .bool false)]) (by kernel_rfl) ?_
          refine OpsT.done ?_
          have e := someS h2
          subst e
          exact Qn.thenJ fun a ha => ⟨false, rfl, ha.keep [0, 4, 5, 6, 7, 21] (by kernel_rfl), hI⟩
      ·
        rintro a w ⟨x6, rfl, ha, hI⟩
        try dsimp only at h1
        refine CodT.of ?_ ha
        by_cases hb8 : x6 = true
        · rw [if_pos hb8] at h1
          refine CodT.yes' (b := x6) (by kernel_rfl) hb8 ?_
          refine CodT.seq ?_
          refine CodT.regionL [0] (by kernel_rfl) ?_
          refine OpsT.pures (r := []) [0] [0, 4, 5] (S' := [(0, .string a0), (4, .int .i64 (wi64 (bt a0 0))), (5, .int .i64 2)]) (by kernel_rfl) ?_
          refine OpsT.done ?_
          refine Qn.then ?_
          refine CodT.seq ?_
          refine CodT.regionL [0] (by kernel_rfl) ?_
          refine OpsT.pures (r := []) [0] [0, 4, 5, 6] (S' := [(0, .string a0), (4, .int .i64 (wi64 (bt a0 0))), (5, .int .i64 2), (6, .int .i64 128)]) (by kernel_rfl) ?_
          refine OpsT.done ?_
          refine Qn.then ?_
          refine CodT.regionL [0, 1, 2] (by kernel_rfl) ?_
          refine OpsT.pures (r := []) [0, 1, 2] [0, 5, 6, 7] (S' := [(0, .string a0), (5, .int .i64 2), (6, .int .i64 128), (7, .int .i64 (wi64 ((wi64 (bt a0 0)) - 192)))]) (by kernel_rfl) ?_
          refine OpsT.done ?_
          have e := someS h1
          subst e
          exact Qn.thenJ fun a ha => ⟨2, 128, wi64 ((wi64 (bt a0 0)) - 192), rfl, ha.keep [0, 5, 6, 7] (by kernel_rfl), hI⟩
        · rw [if_neg hb8] at h1
          refine CodT.no' (b := x6) (by kernel_rfl) (by simpa using hb8) ?_
          obtain ⟨r2, h2, h1⟩ := bindS h1
          refine CodT.meet (fun a w => ∃ (x9 : Bool), x9 = r2 ∧ Fr 85 [(0, .string a0), (4, .int .i64 (wi64 (bt a0 0))), (5, .int .i64 0), (6, .int .i64 0), (7, .int .i64 0), (29, .bool x9)] a ∧ Inv w0 Z w A) ?_ ?_
          ·
            refine CodT.regionL [0, 1, 2, 3, 4, 5] (by kernel_rfl) ?_
            refine OpsT.pures (r := [3, 4, 5]) [0, 1, 2] [0, 4, 5, 6, 7, 26] (S' := [(0, .string a0), (4, .int .i64 (wi64 (bt a0 0))), (5, .int .i64 0), (6, .int .i64 0), (7, .int .i64 0), (26, .bool (decide ((wi64 (bt a0 0)) ≥ 224)))]) (by kernel_rfl) ?_
            by_cases hb10 : (decide ((wi64 (bt a0 0)) ≥ 224)) = true
            · rw [if_pos hb10] at h2
              refine OpsT.keep [0, 4, 5, 6, 7, 26] (S' := [(0, .string a0), (4, .int .i64 (wi64 (bt a0 0))), (5, .int .i64 0), (6, .int .i64 0), (7, .int .i64 0), (26, .bool true)]) (by simp only [hb10]; kernel_rfl) ?_
              refine OpsT.pures (r := []) [3, 4, 5] [0, 4, 5, 6, 7, 29] (S' := [(0, .string a0), (4, .int .i64 (wi64 (bt a0 0))), (5, .int .i64 0), (6, .int .i64 0), (7, .int .i64 0), (29, .bool (decide ((wi64 (bt a0 0)) < 240)))]) (by kernel_rfl) ?_
              refine OpsT.done ?_
              have e := someS h2
              subst e
              exact Qn.thenJ fun a ha => ⟨decide ((wi64 (bt a0 0)) < 240), rfl, ha.keep [0, 4, 5, 6, 7, 29] (by kernel_rfl), hI⟩
            · rw [if_neg hb10] at h2
              have hb10 : (decide ((wi64 (bt a0 0)) ≥ 224)) = false := by simpa using hb10
              refine OpsT.keep [0, 4, 5, 6, 7, 26] (S' := [(0, .string a0), (4, .int .i64 (wi64 (bt a0 0))), (5, .int .i64 0), (6, .int .i64 0), (7, .int .i64 0), (26, .bool false)]) (by simp only [hb10]; kernel_rfl) ?_
              refine OpsT.pures (r := []) [3, 4, 5] [0, 4, 5, 6, 7, 29] (S' := [(0, .string a0), (4, .int .i64 (wi64 (bt a0 0))), (5, .int .i64 0), (6, .int .i64 0), (7, .int .i64 0), (29, .bool false)]) (by kernel_rfl) ?_
              refine OpsT.done ?_
              have e := someS h2
              subst e
              exact Qn.thenJ fun a ha => ⟨false, rfl, ha.keep [0, 4, 5, 6, 7, 29] (by kernel_rfl), hI⟩
          ·
            rintro a w ⟨x9, rfl, ha, hI⟩
            try dsimp only at h1
            refine CodT.of ?_ ha
            by_cases hb11 : x9 = true
            · rw [if_pos hb11] at h1
              refine CodT.yes' (b := x9) (by kernel_rfl) hb11 ?_
              refine CodT.seq ?_
              refine CodT.regionL [0] (by kernel_rfl) ?_
              refine OpsT.pures (r := []) [0] [0, 4, 5] (S' := [(0, .string a0), (4, .int .i64 (wi64 (bt a0 0))), (5, .int .i64 3)]) (by kernel_rfl) ?_
              refine OpsT.done ?_
              refine Qn.then ?_
              refine CodT.seq ?_
              refine CodT.regionL [0] (by kernel_rfl) ?_
              refine OpsT.pures (r := []) [0] [0, 4, 5, 6] (S' := [(0, .string a0), (4, .int .i64 (wi64 (bt a0 0))), (5, .int .i64 3), (6, .int .i64 2048)]) (by kernel_rfl) ?_
              refine OpsT.done ?_
              refine Qn.then ?_
              refine CodT.regionL [0, 1, 2] (by kernel_rfl) ?_
              refine OpsT.pures (r := []) [0, 1, 2] [0, 5, 6, 7] (S' := [(0, .string a0), (5, .int .i64 3), (6, .int .i64 2048), (7, .int .i64 (wi64 ((wi64 (bt a0 0)) - 224)))]) (by kernel_rfl) ?_
              refine OpsT.done ?_
              have e := someS h1
              subst e
              exact Qn.thenJ fun a ha => ⟨3, 2048, wi64 ((wi64 (bt a0 0)) - 224), rfl, ha.keep [0, 5, 6, 7] (by kernel_rfl), hI⟩
            · rw [if_neg hb11] at h1
              refine CodT.no' (b := x9) (by kernel_rfl) (by simpa using hb11) ?_
              obtain ⟨r2, h2, h1⟩ := bindS h1
              refine CodT.meet (fun a w => ∃ (x12 : Bool), x12 = r2 ∧ Fr 85 [(0, .string a0), (4, .int .i64 (wi64 (bt a0 0))), (5, .int .i64 0), (6, .int .i64 0), (7, .int .i64 0), (37, .bool x12)] a ∧ Inv w0 Z w A) ?_ ?_
              ·
                refine CodT.regionL [0, 1, 2, 3, 4, 5] (by kernel_rfl) ?_
                refine OpsT.pures (r := [3, 4, 5]) [0, 1, 2] [0, 4, 5, 6, 7, 34] (S' := [(0, .string a0), (4, .int .i64 (wi64 (bt a0 0))), (5, .int .i64 0), (6, .int .i64 0), (7, .int .i64 0), (34, .bool (decide ((wi64 (bt a0 0)) ≥ 240)))]) (by kernel_rfl) ?_
                by_cases hb13 : (decide ((wi64 (bt a0 0)) ≥ 240)) = true
                · rw [if_pos hb13] at h2
                  refine OpsT.keep [0, 4, 5, 6, 7, 34] (S' := [(0, .string a0), (4, .int .i64 (wi64 (bt a0 0))), (5, .int .i64 0), (6, .int .i64 0), (7, .int .i64 0), (34, .bool true)]) (by simp only [hb13]; kernel_rfl) ?_
                  refine OpsT.pures (r := []) [3, 4, 5] [0, 4, 5, 6, 7, 37] (S' := [(0, .string a0), (4, .int .i64 (wi64 (bt a0 0))), (5, .int .i64 0), (6, .int .i64 0), (7, .int .i64 0), (37, .bool (decide ((wi64 (bt a0 0)) < 245)))]) (by kernel_rfl) ?_
                  refine OpsT.done ?_
                  have e := someS h2
                  subst e
                  exact Qn.thenJ fun a ha => ⟨decide ((wi64 (bt a0 0)) < 245), rfl, ha.keep [0, 4, 5, 6, 7, 37] (by kernel_rfl), hI⟩
                · rw [if_neg hb13] at h2
                  have hb13 : (decide ((wi64 (bt a0 0)) ≥ 240)) = false := by simpa using hb13
                  refine OpsT.keep [0, 4, 5, 6, 7, 34] (S' := [(0, .string a0), (4, .int .i64 (wi64 (bt a0 0))), (5, .int .i64 0), (6, .int .i64 0), (7, .int .i64 0), (34, .bool false)]) (by simp only [hb13]; kernel_rfl) ?_
                  refine OpsT.pures (r := []) [3, 4, 5] [0, 4, 5, 6, 7, 37] (S' := [(0, .string a0), (4, .int .i64 (wi64 (bt a0 0))), (5, .int .i64 0), (6, .int .i64 0), (7, .int .i64 0), (37, .bool false)]) (by kernel_rfl) ?_
                  refine OpsT.done ?_
                  have e := someS h2
                  subst e
                  exact Qn.thenJ fun a ha => ⟨false, rfl, ha.keep [0, 4, 5, 6, 7, 37] (by kernel_rfl), hI⟩
              ·
                rintro a w ⟨x12, rfl, ha, hI⟩
                try dsimp only at h1
                refine CodT.of ?_ ha
                by_cases hb14 : x12 = true
                · rw [if_pos hb14] at h1
                  refine CodT.yes' (b := x12) (by kernel_rfl) hb14 ?_
                  refine CodT.seq ?_
                  refine CodT.regionL [0] (by kernel_rfl) ?_
                  refine OpsT.pures (r := []) [0] [0, 4, 5] (S' := [(0, .string a0), (4, .int .i64 (wi64 (bt a0 0))), (5, .int .i64 4)]) (by kernel_rfl) ?_
                  refine OpsT.done ?_
                  refine Qn.then ?_
                  refine CodT.seq ?_
                  refine CodT.regionL [0] (by kernel_rfl) ?_
                  refine OpsT.pures (r := []) [0] [0, 4, 5, 6] (S' := [(0, .string a0), (4, .int .i64 (wi64 (bt a0 0))), (5, .int .i64 4), (6, .int .i64 65536)]) (by kernel_rfl) ?_
                  refine OpsT.done ?_
                  refine Qn.then ?_
                  refine CodT.regionL [0, 1, 2] (by kernel_rfl) ?_
                  refine OpsT.pures (r := []) [0, 1, 2] [0, 5, 6, 7] (S' := [(0, .string a0), (5, .int .i64 4), (6, .int .i64 65536), (7, .int .i64 (wi64 ((wi64 (bt a0 0)) - 240)))]) (by kernel_rfl) ?_
                  refine OpsT.done ?_
                  have e := someS h1
                  subst e
                  exact Qn.thenJ fun a ha => ⟨4, 65536, wi64 ((wi64 (bt a0 0)) - 240), rfl, ha.keep [0, 5, 6, 7] (by kernel_rfl), hI⟩
                · rw [if_neg hb14] at h1
                  refine CodT.no' (b := x12) (by kernel_rfl) (by simpa using hb14) ?_
                  refine CodT.skip ?_
                  have e := someS h1
                  subst e
                  exact Qn.thenJ fun a ha => ⟨0, 0, 0, rfl, ha.keep [0, 5, 6, 7] (by kernel_rfl), hI⟩
    ·
      rintro a w ⟨x3, x4, x5, rfl, ha, hI⟩
      try dsimp only at h0
      refine CodT.of ?_ ha
      refine CodT.seq ?_
      obtain ⟨r1, h1, h0⟩ := bindS h0
      refine CodT.meet (fun a w => ∃ (x15 : Bool), x15 = r1 ∧ Fr 85 [(0, .string a0), (5, .int .i64 x3), (6, .int .i64 x4), (7, .int .i64 x5), (47, .bool x15)] a ∧ Inv w0 Z w A) ?_ ?_
      ·
        refine CodT.regionL [0, 1, 2, 3, 4, 5, 6, 7] (by kernel_rfl) ?_
        refine OpsT.pures (r := [3, 4, 5, 6, 7]) [0, 1, 2] [0, 5, 6, 7, 42] (S' := [(0, .string a0), (5, .int .i64 x3), (6, .int .i64 x4), (7, .int .i64 x5), (42, .bool (x3 == 0))]) (by kernel_rfl) ?_
        by_cases hb16 : (x3 == 0) = true
        · rw [if_pos hb16] at h1
          refine OpsT.keep [0, 5, 6, 7, 42] (S' := [(0, .string a0), (5, .int .i64 x3), (6, .int .i64 x4), (7, .int .i64 x5), (42, .bool true)]) (by simp only [hb16]; kernel_rfl) ?_
          refine OpsT.pures (r := []) [3, 4, 5, 6, 7] [0, 5, 6, 7, 47] (S' := [(0, .string a0), (5, .int .i64 x3), (6, .int .i64 x4), (7, .int .i64 x5), (47, .bool true)]) (by kernel_rfl) ?_
          refine OpsT.done ?_
          have e := someS h1
          subst e
          exact Qn.thenJ fun a ha => ⟨true, rfl, ha.keep [0, 5, 6, 7, 47] (by kernel_rfl), hI⟩
        · rw [if_neg hb16] at h1
          have hb16 : (x3 == 0) = false := by simpa using hb16
          refine OpsT.keep [0, 5, 6, 7, 42] (S' := [(0, .string a0), (5, .int .i64 x3), (6, .int .i64 x4), (7, .int .i64 x5), (42, .bool false)]) (by simp only [hb16]; kernel_rfl) ?_
          refine OpsT.pures (r := []) [3, 4, 5, 6, 7] [0, 5, 6, 7, 47] (S' := [(0, .string a0), (5, .int .i64 x3), (6, .int .i64 x4), (7, .int .i64 x5), (47, .bool (decide ((a0.size : Int) < x3)))]) (by kernel_rfl) ?_
          refine OpsT.done ?_
          have e := someS h1
          subst e
          exact Qn.thenJ fun a ha => ⟨decide ((a0.size : Int) < x3), rfl, ha.keep [0, 5, 6, 7, 47] (by kernel_rfl), hI⟩
      ·
        rintro a w ⟨x15, rfl, ha, hI⟩
        try dsimp only at h0
        refine CodT.of ?_ ha
        by_cases hb17 : x15 = true
        · rw [if_pos hb17] at h0
          refine CodT.yes' (b := x15) (by kernel_rfl) hb17 ?_
          refine CodT.seq ?_
          refine CodT.regionL [0, 1] (by kernel_rfl) ?_
          refine OpsT.pures (r := []) [0, 1] [2, 3] (S' := [(2, .int .i64 (-1)), (3, .int .i64 1)]) (by kernel_rfl) ?_
          refine OpsT.done ?_
          refine Qn.then ?_
          refine CodT.ret ?_
          refine Qn.ret_then ?_
          have e := someS h0
          subst e
          refine Qn.keep [2, 3] (S' := [(2, .int .i64 (-1)), (3, .int .i64 1)]) (by kernel_rfl) ?_
          exact post_ret (v := .tuple #[.int .i64 (-1), .int .i64 1]) (fun a ha => RunRes.run (vs := [.int .i64 (-1), .int .i64 1]) (.tmp (t := 2) (by kernel_rfl) (.tmp (t := 3) (by kernel_rfl) .nil)) ha (by kernel_rfl)) ⟨rfl, hI⟩
        · rw [if_neg hb17] at h0
          refine CodT.no' (b := x15) (by kernel_rfl) (by simpa using hb17) ?_
          refine CodT.skip ?_
          refine Qn.then ?_
          refine CodT.seq ?_
          refine CodT.seq ?_
          refine CodT.regionL [0] (by kernel_rfl) ?_
          refine OpsT.pures (r := []) [0] [0, 5, 6, 7, 8] (S' := [(0, .string a0), (5, .int .i64 x3), (6, .int .i64 x4), (7, .int .i64 x5), (8, .int .i64 1)]) (by kernel_rfl) ?_
          refine OpsT.done ?_
          refine Qn.then ?_
          obtain ⟨r1, h1, h0⟩ := bindS h0
          refine CodT.meet1 (fun a w => ∃ (x18 : Int), .inr x18 = r1 ∧ Fr 85 [(5, .int .i64 x3), (6, .int .i64 x4), (7, .int .i64 x18)] a ∧ Inv w0 Z w A) ?_ ?_
          ·
            refine CodT.block ?_
            refine (fun a ha => wp_loopN (fun k a w => ∃ (x19 : Int) (x20 : Int), ref03_Rune.l0 x3 a0 k x19 x20 = some r1 ∧ Fr 85 [(0, .string a0), (5, .int .i64 x3), (6, .int .i64 x4), (7, .int .i64 x19), (8, .int .i64 x20)] a ∧ Inv w0 Z w A) ?_ FU a w ⟨x5, 1, h1, ha.keep [0, 5, 6, 7, 8] (by kernel_rfl), hI⟩)
            clear h1 hI
            rintro k a w ⟨x19, x20, h1, ha, hI⟩
            rcases k with _ | k
            · cases h1
            simp only [ref03_Rune.l0] at h1
            refine CodT.of ?_ ha
            refine CodT.seq ?_
            refine CodT.seq ?_
            refine CodT.regionL [0, 1, 2] (by kernel_rfl) ?_
            refine OpsT.pures (r := []) [0, 1, 2] [0, 5, 6, 7, 8, 50] (S' := [(0, .string a0), (5, .int .i64 x3), (6, .int .i64 x4), (7, .int .i64 x19), (8, .int .i64 x20), (50, .bool (decide (x20 < x3)))]) (by kernel_rfl) ?_
            refine OpsT.done ?_
            refine Qn.then ?_
            by_cases hb21 : (decide (x20 < x3)) = true
            · rw [if_pos hb21] at h1
              refine CodT.yes' (b := decide (x20 < x3)) (by kernel_rfl) hb21 ?_
              refine CodT.skip ?_
              refine Qn.then ?_
              refine CodT.seq ?_
              refine CodT.block ?_
              refine CodT.seq ?_
              refine CodT.regionL [0, 1, 2, 3, 4] (by kernel_rfl) ?_
              refine OpsT.pures (r := [2, 3, 4]) [0, 1] [0, 5, 6, 7, 8, 53, 54] (S' := [(0, .string a0), (5, .int .i64 x3), (6, .int .i64 x4), (7, .int .i64 x19), (8, .int .i64 x20), (53, .string a0), (54, .int .i64 x20)]) (by kernel_rfl) ?_
              obtain ⟨hg22, h1⟩ := guardS h1
              refine OpsT.cons (Does.yi (Yl.indexStr (d := 55) (T := 9) (k := .i64) (j := x20) (s := a0) (by kernel_rfl) Go.Proofs.Tryd.underlying9 hg22.1 hg22.2) hI ?_)
              refine OpsT.pures (r := []) [3, 4] [0, 5, 6, 7, 8, 9] (S' := [(0, .string a0), (5, .int .i64 x3), (6, .int .i64 x4), (7, .int .i64 x19), (8, .int .i64 x20), (9, .int .i64 (wi64 (bt a0 x20)))]) (by kernel_rfl) ?_
              refine OpsT.done ?_
              refine Qn.then ?_
              refine CodT.seq ?_
              obtain ⟨r2, h2, h1⟩ := bindS h1
              refine CodT.meet (fun a w => ∃ (x23 : Bool), x23 = r2 ∧ Fr 85 [(0, .string a0), (5, .int .i64 x3), (6, .int .i64 x4), (7, .int .i64 x19), (8, .int .i64 x20), (9, .int .i64 (wi64 (bt a0 x20))), (62, .bool x23)] a ∧ Inv w0 Z w A) ?_ ?_
              ·
                refine CodT.regionL [0, 1, 2, 3, 4, 5] (by kernel_rfl) ?_
                refine OpsT.pures (r := [3, 4, 5]) [0, 1, 2] [0, 5, 6, 7, 8, 9, 59] (S' := [(0, .string a0), (5, .int .i64 x3), (6, .int .i64 x4), (7, .int .i64 x19), (8, .int .i64 x20), (9, .int .i64 (wi64 (bt a0 x20))), (59, .bool (decide ((wi64 (bt a0 x20)) < 128)))]) (by kernel_rfl) ?_
                by_cases hb24 : (decide ((wi64 (bt a0 x20)) < 128)) = true
                · rw [if_pos hb24] at h2
                  refine OpsT.keep [0, 5, 6, 7, 8, 9, 59] (S' := [(0, .string a0), (5, .int .i64 x3), (6, .int .i64 x4), (7, .int .i64 x19), (8, .int .i64 x20), (9, .int .i64 (wi64 (bt a0 x20))), (59, .bool true)]) (by simp only [hb24]; kernel_rfl) ?_
                  refine OpsT.pures (r := []) [3, 4, 5] [0, 5, 6, 7, 8, 9, 62] (S' := [(0, .string a0), (5, .int .i64 x3), (6, .int .i64 x4), (7, .int .i64 x19), (8, .int .i64 x20), (9, .int .i64 (wi64 (bt a0 x20))), (62, .bool true)]) (by kernel_rfl) ?_
                  refine OpsT.done ?_
                  have e := someS h2
                  subst e
                  exact Qn.thenJ fun a ha => ⟨true, rfl, ha.keep [0, 5, 6, 7, 8, 9, 62] (by kernel_rfl), hI⟩
                · rw [if_neg hb24] at h2
                  have hb24 : (decide ((wi64 (bt a0 x20)) < 128)) = false := by simpa using hb24
                  refine OpsT.keep [0, 5, 6, 7, 8, 9, 59] (S' := [(0, .string a0), (5, .int .i64 x3), (6, .int .i64 x4), (7, .int .i64 x19), (8, .int .i64 x20), (9, .int .i64 (wi64 (bt a0 x20))), (59, .bool false)]) (by simp only [hb24]; kernel_rfl) ?_
                  refine OpsT.pures (r := []) [3, 4, 5] [0, 5, 6, 7, 8, 9, 62] (S' := [(0, .string a0), (5, .int .i64 x3), (6, .int .i64 x4), (7, .int .i64 x19), (8, .int .i64 x20), (9, .int .i64 (wi64 (bt a0 x20))), (62, .bool (decide ((wi64 (bt a0 x20)) > 191)))]) (by kernel_rfl) ?_
                  refine OpsT.done ?_
                  have e := someS h2
                  subst e
                  exact Qn.thenJ fun a ha => ⟨decide ((wi64 (bt a0 x20)) > 191), rfl, ha.keep [0, 5, 6, 7, 8, 9, 62] (by kernel_rfl), hI⟩
              ·
                rintro a w ⟨x23, rfl, ha, hI⟩
                try dsimp only at h1
                refine CodT.of ?_ ha
                by_cases hb25 : x23 = true
                · rw [if_pos hb25] at h1
                  refine CodT.yes' (b := x23) (by kernel_rfl) hb25 ?_
                  refine CodT.seq ?_
                  refine CodT.regionL [0, 1] (by kernel_rfl) ?_
                  refine OpsT.pures (r := []) [0, 1] [2, 3] (S' := [(2, .int .i64 (-1)), (3, .int .i64 1)]) (by kernel_rfl) ?_
                  refine OpsT.done ?_
                  refine Qn.then ?_
                  refine CodT.ret ?_
                  refine Qn.ret_then ?_
                  refine Qn.block_ret ?_
                  refine Qn.ret_then ?_
                  refine Qn.ret_then ?_
                  refine Qn.block_ret ?_
                  refine Qn.ret_then ?_
                  refine Qn.ret_then ?_
                  have e := someS h1
                  subst e
                  try dsimp only at h0
                  have e := someS h0
                  subst e
                  refine Qn.keep [2, 3] (S' := [(2, .int .i64 (-1)), (3, .int .i64 1)]) (by kernel_rfl) ?_
                  exact post_ret (v := .tuple #[.int .i64 (-1), .int .i64 1]) (fun a ha => RunRes.run (vs := [.int .i64 (-1), .int .i64 1]) (.tmp (t := 2) (by kernel_rfl) (.tmp (t := 3) (by kernel_rfl) .nil)) ha (by kernel_rfl)) ⟨rfl, hI⟩
                · rw [if_neg hb25] at h1
                  refine CodT.no' (b := x23) (by kernel_rfl) (by simpa using hb25) ?_
                  refine CodT.skip ?_
                  refine Qn.then ?_
                  refine CodT.regionL [0, 1, 2, 3, 4, 5] (by kernel_rfl) ?_
                  refine OpsT.pures (r := []) [0, 1, 2, 3, 4, 5] [0, 5, 6, 7, 8] (S' := [(0, .string a0), (5, .int .i64 x3), (6, .int .i64 x4), (7, .int .i64 (wi64 ((wi64 ((wi64 (x19 * 64)) + (wi64 (bt a0 x20)))) - 128))), (8, .int .i64 x20)]) (by kernel_rfl) ?_
                  refine OpsT.done ?_
                  refine Qn.block_normal ?_
                  refine Qn.then ?_
                  refine CodT.regionL [0, 1, 2] (by kernel_rfl) ?_
                  refine OpsT.pures (r := []) [0, 1, 2] [0, 5, 6, 7, 8] (S' := [(0, .string a0), (5, .int .i64 x3), (6, .int .i64 x4), (7, .int .i64 (wi64 ((wi64 ((wi64 (x19 * 64)) + (wi64 (bt a0 x20)))) - 128))), (8, .int .i64 (wi64 (x20 + 1)))]) (by kernel_rfl) ?_
                  refine OpsT.done ?_
                  exact Qn.thenJ fun a ha => ⟨k, Nat.lt_succ_self k, wi64 ((wi64 ((wi64 (x19 * 64)) + (wi64 (bt a0 x20)))) - 128), wi64 (x20 + 1), h1, ha.keep [0, 5, 6, 7, 8] (by kernel_rfl), hI⟩
            · rw [if_neg hb21] at h1
              refine CodT.no' (b := decide (x20 < x3)) (by kernel_rfl) (by simpa using hb21) ?_
              refine CodT.exit ?_
              refine Qn.exit_then ?_
              refine Qn.exit_then ?_
              refine Qn.block ?_
              have e := someS h1
              subst e
              exact Qn.thenJ fun a ha => ⟨x19, rfl, ha.keep [5, 6, 7] (by kernel_rfl), hI⟩
          ·
            rintro a w ⟨x18, rfl, ha, hI⟩
            try dsimp only at h0
            refine Qn.of ?_ ha
            refine Qn.then ?_
            refine CodT.seq ?_
            obtain ⟨r1, h1, h0⟩ := bindS h0
            refine CodT.meet (fun a w => ∃ (x26 : Bool), x26 = r1 ∧ Fr 85 [(5, .int .i64 x3), (7, .int .i64 x18), (82, .bool x26)] a ∧ Inv w0 Z w A) ?_ ?_
            ·
              refine CodT.regionL [0, 1, 2, 3, 4, 5, 6, 7, 8, 9, 10, 11, 12, 13, 14] (by kernel_rfl) ?_
              refine OpsT.pures (r := [4, 5, 6, 7, 8, 9, 10, 11, 12, 13, 14]) [0, 1, 2, 3] [5, 7, 71] (S' := [(5, .int .i64 x3), (7, .int .i64 x18), (71, .bool (decide (x18 < x4)))]) (by kernel_rfl) ?_
              by_cases hb27 : (decide (x18 < x4)) = true
              · rw [if_pos hb27] at h1
                refine OpsT.keep [5, 7, 71] (S' := [(5, .int .i64 x3), (7, .int .i64 x18), (71, .bool true)]) (by simp only [hb27]; kernel_rfl) ?_
                refine OpsT.pures (r := []) [4, 5, 6, 7, 8, 9, 10, 11, 12, 13, 14] [5, 7, 82] (S' := [(5, .int .i64 x3), (7, .int .i64 x18), (82, .bool true)]) (by kernel_rfl) ?_
                refine OpsT.done ?_
                have e := someS h1
                subst e
                exact Qn.thenJ fun a ha => ⟨true, rfl, ha.keep [5, 7, 82] (by kernel_rfl), hI⟩
              · rw [if_neg hb27] at h1
                have hb27 : (decide (x18 < x4)) = false := by simpa using hb27
                refine OpsT.keep [5, 7, 71] (S' := [(5, .int .i64 x3), (7, .int .i64 x18), (71, .bool false)]) (by simp only [hb27]; kernel_rfl) ?_
                refine OpsT.pures (r := [8, 9, 10, 11, 12, 13, 14]) [4, 5, 6, 7] [5, 7, 75] (S' := [(5, .int .i64 x3), (7, .int .i64 x18), (75, .bool (decide (x18 > 1114111)))]) (by kernel_rfl) ?_
                by_cases hb28 : (decide (x18 > 1114111)) = true
                · rw [if_pos hb28] at h1
                  refine OpsT.keep [5, 7, 75] (S' := [(5, .int .i64 x3), (7, .int .i64 x18), (75, .bool true)]) (by simp only [hb28]; kernel_rfl) ?_
                  refine OpsT.pures (r := []) [8, 9, 10, 11, 12, 13, 14] [5, 7, 82] (S' := [(5, .int .i64 x3), (7, .int .i64 x18), (82, .bool true)]) (by kernel_rfl) ?_
                  refine OpsT.done ?_
                  have e := someS h1
                  subst e
                  exact Qn.thenJ fun a ha => ⟨true, rfl, ha.keep [5, 7, 82] (by kernel_rfl), hI⟩
                · rw [if_neg hb28] at h1
                  have hb28 : (decide (x18 > 1114111)) = false := by simpa using hb28
                  refine OpsT.keep [5, 7, 75] (S' := [(5, .int .i64 x3), (7, .int .i64 x18), (75, .bool false)]) (by simp only [hb28]; kernel_rfl) ?_
                  refine OpsT.pures (r := [11, 12, 13, 14]) [8, 9, 10] [5, 7, 75, 78] (S' := [(5, .int .i64 x3), (7, .int .i64 x18), (75, .bool false), (78, .bool (decide (x18 ≥ 55296)))]) (by kernel_rfl) ?_
                  by_cases hb29 : (decide (x18 ≥ 55296)) = true
                  · rw [if_pos hb29] at h1
                    refine OpsT.keep [5, 7, 75, 78] (S' := [(5, .int .i64 x3), (7, .int .i64 x18), (75, .bool false), (78, .bool true)]) (by simp only [hb29]; kernel_rfl) ?_
                    refine OpsT.pures (r := []) [11, 12, 13, 14] [5, 7, 82] (S' := [(5, .int .i64 x3), (7, .int .i64 x18), (82, .bool (decide (x18 ≤ 57343)))]) (by kernel_rfl) ?_
                    refine OpsT.done ?_
                    have e := someS h1
                    subst e
                    exact Qn.thenJ fun a ha => ⟨decide (x18 ≤ 57343), rfl, ha.keep [5, 7, 82] (by kernel_rfl), hI⟩
                  · rw [if_neg hb29] at h1
                    have hb29 : (decide (x18 ≥ 55296)) = false := by simpa using hb29
                    refine OpsT.keep [5, 7, 75, 78] (S' := [(5, .int .i64 x3), (7, .int .i64 x18), (75, .bool false), (78, .bool false)]) (by simp only [hb29]; kernel_rfl) ?_
                    refine OpsT.pures (r := []) [11, 12, 13, 14] [5, 7, 82] (S' := [(5, .int .i64 x3), (7, .int .i64 x18), (82, .bool false)]) (by kernel_rfl) ?_
                    refine OpsT.done ?_
                    have e := someS h1
                    subst e
                    exact Qn.thenJ fun a ha => ⟨false, rfl, ha.keep [5, 7, 82] (by kernel_rfl), hI⟩
            ·
              rintro a w ⟨x26, rfl, ha, hI⟩
              try dsimp only at h0
              refine CodT.of ?_ ha
              by_cases hb30 : x26 = true
              · rw [if_pos hb30] at h0
                refine CodT.yes' (b := x26) (by kernel_rfl) hb30 ?_
                refine CodT.seq ?_
                refine CodT.regionL [0, 1] (by kernel_rfl) ?_
                refine OpsT.pures (r := []) [0, 1] [2, 3] (S' := [(2, .int .i64 (-1)), (3, .int .i64 1)]) (by kernel_rfl) ?_
                refine OpsT.done ?_
                refine Qn.then ?_
                refine CodT.ret ?_
                refine Qn.ret_then ?_
                have e := someS h0
                subst e
                refine Qn.keep [2, 3] (S' := [(2, .int .i64 (-1)), (3, .int .i64 1)]) (by kernel_rfl) ?_
                exact post_ret (v := .tuple #[.int .i64 (-1), .int .i64 1]) (fun a ha => RunRes.run (vs := [.int .i64 (-1), .int .i64 1]) (.tmp (t := 2) (by kernel_rfl) (.tmp (t := 3) (by kernel_rfl) .nil)) ha (by kernel_rfl)) ⟨rfl, hI⟩
              · rw [if_neg hb30] at h0
                refine CodT.no' (b := x26) (by kernel_rfl) (by simpa using hb30) ?_
                refine CodT.skip ?_
                refine Qn.then ?_
                refine CodT.seq ?_
                refine CodT.regionL [0, 1, 2, 3] (by kernel_rfl) ?_
                refine OpsT.pures (r := []) [0, 1, 2, 3] [2, 3] (S' := [(2, .int .i64 x18), (3, .int .i64 x3)]) (by kernel_rfl) ?_
                refine OpsT.done ?_
                refine Qn.then ?_
                refine CodT.ret ?_
                have e := someS h0
                subst e
                refine Qn.keep [2, 3] (S' := [(2, .int .i64 x18), (3, .int .i64 x3)]) (by kernel_rfl) ?_
                exact post_ret (v := .tuple #[.int .i64 x18, .int .i64 x3]) (fun a ha => RunRes.run (vs := [.int .i64 x18, .int .i64 x3]) (.tmp (t := 2) (by kernel_rfl) (.tmp (t := 3) (by kernel_rfl) .nil)) ha (by kernel_rfl)) ⟨rfl, hI⟩
set_option maxRecDepth 100000 in
set_option maxHeartbeats 4000000 in
/-- cenotaph/cenotaphref03.Runes -/
theorem c11 (w0 w : World) (Z : Hp) (A : HP) (hI : Inv w0 Z w A) (hT : Tabs Z) (a0 : ByteArray) (r : (List Int)) (h0 : ref03_Runes a0 = some r) :
    Calls prog 11 #[.string a0] w (fun e w' => ∃ (A1 : Option Addr) (c1 : Nat), e = .returned (.slice A1 r.length c1) ∧ Inv w0 Z w' (star (ownS 3 (cI .i64) 1 A1 c1 r) A)) := by
  have e4 := calls_intro (R := (fun e w' => ∃ (A1 : Option Addr) (c1 : Nat), e = .returned (.slice A1 r.length c1) ∧ Inv w0 Z w' (star (ownS 3 (cI .i64) 1 A1 c1 r) A))) (w := w) (args := [.string a0]) (fn := Go.Proofs.Tryd.f11) 33 Go.Proofs.Tryd.func11 (by rfl) Go.Proofs.Tryd.ntmps11 (by kernel_rfl)
  refine e4 ?_
  clear e4
  unfold ref03_Runes at h0
  refine CodT.seq ?_
  refine CodT.regionL [0] (by kernel_rfl) ?_
  refine OpsT.pures (r := []) [0] [0] (S' := [(0, .string a0)]) (by kernel_rfl) ?_
  refine OpsT.done ?_
  refine Qn.then ?_
  refine CodT.seq ?_
  refine CodT.regionL [0] (by kernel_rfl) ?_
  refine OpsT.pures (r := []) [0] [0, 3] (S' := [(0, .string a0), (3, .slice none 0 0)]) (by kernel_rfl) ?_
  refine OpsT.done ?_
  refine Qn.then ?_
  refine CodT.seq ?_
  refine CodT.seq ?_
  refine CodT.regionL [0] (by kernel_rfl) ?_
  refine OpsT.pures (r := []) [0] [0, 3, 4] (S' := [(0, .string a0), (3, .slice none 0 0), (4, .int .i64 0)]) (by kernel_rfl) ?_
  refine OpsT.done ?_
  refine Qn.then ?_
  obtain ⟨r1, h1, h0⟩ := bindS h0
  refine CodT.meet1 (fun a w => ∃ (x1 : (List Int)) (A2 : Option Addr) (cp3 : Nat), x1 = r1 ∧ Fr 33 [(3, .slice A2 x1.length cp3)] a ∧ Inv w0 Z w (star (ownS 3 (cI .i64) 1 A2 cp3 x1) A)) ?_ ?_
  ·
    refine CodT.block ?_
    have hI := ownS_nil (α := Int) hI 3 (cI .i64) 1
    refine (fun a ha => wp_loopN (fun k a w => ∃ (x4 : (List Int)) (x7 : Int) (A5 : Option Addr) (cp6 : Nat), ref03_Runes.l0 a0 k x4 x7 = some r1 ∧ Fr 33 [(0, .string a0), (3, .slice A5 x4.length cp6), (4, .int .i64 x7)] a ∧ Inv w0 Z w (star (ownS 3 (cI .i64) 1 A5 cp6 x4) A)) ?_ FU a w ⟨([] : List Int), 0, none, 0, h1, ha.keep [0, 3, 4] (by kernel_rfl), hI⟩)
    clear h1 hI
    rintro k a w ⟨x4, x7, A5, cp6, h1, ha, hI⟩
    rcases k with _ | k
    · cases h1
    simp only [ref03_Runes.l0] at h1
    refine CodT.of ?_ ha
    refine CodT.seq ?_
    refine CodT.seq ?_
    refine CodT.regionL [0, 1, 2, 3] (by kernel_rfl) ?_
    refine OpsT.pures (r := []) [0, 1, 2, 3] [0, 3, 4, 10] (S' := [(0, .string a0), (3, .slice A5 x4.length cp6), (4, .int .i64 x7), (10, .bool (decide (x7 < (a0.size : Int))))]) (by kernel_rfl) ?_
    refine OpsT.done ?_
    refine Qn.then ?_
    by_cases hb8 : (decide (x7 < (a0.size : Int))) = true
    · rw [if_pos hb8] at h1
      refine CodT.yes' (b := decide (x7 < (a0.size : Int))) (by kernel_rfl) hb8 ?_
      refine CodT.skip ?_
      refine Qn.then ?_
      refine CodT.block ?_
      refine CodT.seq ?_
      refine CodT.regionL [0, 1, 2, 3, 4, 5, 6, 7, 8] (by kernel_rfl) ?_
      refine OpsT.pures (r := [2, 3, 4, 5, 6, 7, 8]) [0, 1] [0, 3, 4, 12, 13] (S' := [(0, .string a0), (3, .slice A5 x4.length cp6), (4, .int .i64 x7), (12, .string a0), (13, .int .i64 x7)]) (by kernel_rfl) ?_
      obtain ⟨hg9, h1⟩ := guardS h1
      refine OpsT.cons (Does.yi (Yl.sliceStr10 (d := 14) (T := 9) (s := a0) (lo := x7) (by kernel_rfl) Go.Proofs.Tryd.underlying9 hg9) hI ?_)
      obtain ⟨⟨y11, y12⟩, hc10, h1⟩ := bindS h1
      try dsimp only at h1
      refine OpsT.cons (Does.call (d := some 15) (n := 23) (vs := [.string (sx a0 x7 (a0.size : Int))]) (by kernel_rfl) en23 (c23 w0 w _ _ hI hT (sx a0 x7 (a0.size : Int)) _ hc10) ?_)
      rintro e w ⟨rfl, hI⟩
      refine ⟨_, rfl, ?_⟩
      refine OpsT.pures (r := []) [4, 5, 6, 7, 8] [0, 3, 4, 5, 6] (S' := [(0, .string a0), (3, .slice A5 x4.length cp6), (4, .int .i64 x7), (5, .int .i64 y11), (6, .int .i64 y12)]) (by kernel_rfl) ?_
      refine OpsT.done ?_
      refine Qn.then ?_
      obtain ⟨r2, h2, h1⟩ := bindS h1
      refine CodT.meet (fun a w => ∃ (x13 : Int), x13 = r2 ∧ Fr 33 [(0, .string a0), (3, .slice A5 x4.length cp6), (4, .int .i64 x7), (5, .int .i64 x13), (6, .int .i64 y12)] a ∧ Inv w0 Z w (star (ownS 3 (cI .i64) 1 A5 cp6 x4) A)) ?_ ?_
      ·
        refine CodT.seq ?_
        refine CodT.regionL [0, 1] (by kernel_rfl) ?_
        refine OpsT.pures (r := []) [0, 1] [0, 3, 4, 5, 6, 19] (S' := [(0, .string a0), (3, .slice A5 x4.length cp6), (4, .int .i64 x7), (5, .int .i64 y11), (6, .int .i64 y12), (19, .bool (decide (y11 < 0)))]) (by kernel_rfl) ?_
        refine OpsT.done ?_
        refine Qn.then ?_
        by_cases hb14 : (decide (y11 < 0)) = true
        · rw [if_pos hb14] at h2
          refine CodT.yes' (b := decide (y11 < 0)) (by kernel_rfl) hb14 ?_
          refine CodT.regionL [0, 1, 2, 3, 4, 5] (by kernel_rfl) ?_
          refine OpsT.pures (r := [2, 3, 4, 5]) [0, 1] [0, 3, 4, 6, 20, 21] (S' := [(0, .string a0), (3, .slice A5 x4.length cp6), (4, .int .i64 x7), (6, .int .i64 y12), (20, .string a0), (21, .int .i64 x7)]) (by kernel_rfl) ?_
          obtain ⟨hg15, h2⟩ := guardS h2
          refine OpsT.cons (Does.yi (Yl.indexStr (d := 22) (T := 9) (k := .i64) (j := x7) (s := a0) (by kernel_rfl) Go.Proofs.Tryd.underlying9 hg15.1 hg15.2) hI ?_)
          refine OpsT.pures (r := []) [3, 4, 5] [0, 3, 4, 5, 6] (S' := [(0, .string a0), (3, .slice A5 x4.length cp6), (4, .int .i64 x7), (5, .int .i64 (wi64 (1114112 + (wi64 (bt a0 x7))))), (6, .int .i64 y12)]) (by kernel_rfl) ?_
          refine OpsT.done ?_
          have e := someS h2
          subst e
          exact Qn.thenJ fun a ha => ⟨wi64 (1114112 + (wi64 (bt a0 x7))), rfl, ha.keep [0, 3, 4, 5, 6] (by kernel_rfl), hI⟩
        · rw [if_neg hb14] at h2
          refine CodT.no' (b := decide (y11 < 0)) (by kernel_rfl) (by simpa using hb14) ?_
          refine CodT.skip ?_
          have e := someS h2
          subst e
          exact Qn.thenJ fun a ha => ⟨y11, rfl, ha.keep [0, 3, 4, 5, 6] (by kernel_rfl), hI⟩
      ·
        rintro a w ⟨x13, rfl, ha, hI⟩
        try dsimp only at h1
        refine CodT.of ?_ ha
        refine CodT.seq ?_
        refine CodT.regionL [0, 1, 2, 3, 4] (by kernel_rfl) ?_
        refine OpsT.pures (r := [2, 3, 4]) [0, 1] [0, 4, 6, 25, 26] (S' := [(0, .string a0), (4, .int .i64 x7), (6, .int .i64 y12), (25, .slice A5 x4.length cp6), (26, .int .i64 x13)]) (by kernel_rfl) ?_
        refine OpsT.cons (Does.buildSlice (en := (cI .i64)) (d := 27) (n := 1) (T := 26) (ps := [(0, .int .i64 x13)]) ([x13] : List Int) (by kernel_rfl) Go.Proofs.Tryd.underlying26 ty3 (by kernel_rfl) (by kernel_rfl) (by kernel_rfl) (by kernel_rfl) (len_all (fun _ => rfl)) hI ?_)
        intro b16 w hI
        obtain ⟨hg17, h1⟩ := guardS h1
        have hI := hI.mono (pick2 _ _ _)
        refine OpsT.cons (Does.append (d := 28) (t := 26) (tx := 26) (ty := 26) (ys := x4) (zs := ([x13] : List Int)) (x := .slice (some ⟨b16, 0, none⟩) (([x13] : List Int).length) 1) (by kernel_rfl) Go.Proofs.Tryd.underlying26 ty3 (by kernel_rfl) hI (src_own Go.Proofs.Tryd.underlying26 (hI.mono (pick2 _ _ _)) (one_flat _ (fun _ => rfl))) (ownS_facts (hI.mono (pick2 _ _ _))).2.2 (by unfold LIM at hg17; omega) hg17 ?_)
        intro A18 cp19 w hI
        refine OpsT.pures (r := []) [4] [0, 3, 4, 6] (S' := [(0, .string a0), (3, .slice A18 ((x4 ++ ([x13] : List Int)).length) cp19), (4, .int .i64 x7), (6, .int .i64 y12)]) (by kernel_rfl) ?_
        refine OpsT.done ?_
        refine Qn.then ?_
        refine CodT.regionL [0, 1, 2, 3] (by kernel_rfl) ?_
        refine OpsT.pures (r := []) [0, 1, 2, 3] [0, 3, 4] (S' := [(0, .string a0), (3, .slice A18 ((x4 ++ ([x13] : List Int)).length) cp19), (4, .int .i64 (wi64 (x7 + y12)))]) (by kernel_rfl) ?_
        refine OpsT.done ?_
        refine Qn.block_normal ?_
        have hI := hI.mono (pick2 _ _ _)
        have hI := hI.drop
        exact Qn.thenJ fun a ha => ⟨k, Nat.lt_succ_self k, x4 ++ ([x13] : List Int), wi64 (x7 + y12), A18, cp19, h1, ha.keep [0, 3, 4] (by kernel_rfl), hI⟩
    · rw [if_neg hb8] at h1
      refine CodT.no' (b := decide (x7 < (a0.size : Int))) (by kernel_rfl) (by simpa using hb8) ?_
      refine CodT.exit ?_
      refine Qn.exit_then ?_
      refine Qn.exit_then ?_
      refine Qn.block ?_
      have e := someS h1
      subst e
      exact Qn.thenJ fun a ha => ⟨x4, A5, cp6, rfl, ha.keep [3] (by kernel_rfl), hI⟩
  ·
    rintro a w ⟨x1, A2, cp3, rfl, ha, hI⟩
    try dsimp only at h0
    refine Qn.of ?_ ha
    refine Qn.then ?_
    refine CodT.seq ?_
    refine CodT.regionL [0, 1] (by kernel_rfl) ?_
    refine OpsT.pures (r := []) [0, 1] [2] (S' := [(2, .slice A2 x1.length cp3)]) (by kernel_rfl) ?_
    refine OpsT.done ?_
    refine Qn.then ?_
    refine CodT.ret ?_
    have e := someS h0
    subst e
    refine Qn.keep [2] (S' := [(2, .slice A2 x1.length cp3)]) (by kernel_rfl) ?_
    exact post_ret (v := .slice A2 x1.length cp3) (fun a ha => RunRes.run (vs := [.slice A2 x1.length cp3]) (.tmp (t := 2) (by kernel_rfl) .nil) ha (by kernel_rfl)) ⟨A2, cp3, rfl, hI⟩
end Go.Cen
