/- That the machine computes these: walks, printed by a program of ours. -/
import Derived.Test.YthdoklobbcedcaaDoorPy
import Derived.Test.YthdoklobbcedcaaDoorWy0
set_option linter.unusedVariables false
set_option linter.unusedSimpArgs false
namespace Go.Cen
set_option maxRecDepth 100000 in
set_option maxHeartbeats 4000000 in
/-- cenotaph/cenotaphlaw03.works -/
theorem c4 (w0 w : World) (Z : Hp) (A : HP) (hI : Inv w0 Z w A) (hT : Tabs Z)  (r : Bool) (h0 : law03_works = some r) :
    Calls prog 4 #[] w (fun e w' => e = .returned (.bool r) ∧ Inv w0 Z w' A) := by
  have e4 := calls_intro (R := (fun e w' => e = .returned (.bool r) ∧ Inv w0 Z w' A)) (w := w) (args := []) (fn := Go.Proofs.Tryd.f4) 49 Go.Proofs.Tryd.func4 (by rfl) Go.Proofs.Tryd.ntmps4 (by kernel_rfl)
  refine e4 ?_
  clear e4
  unfold law03_works at h0
  refine CodT.seq ?_
  refine CodT.regionL [0] (by kernel_rfl) ?_
  refine OpsT.pures (r := []) [0] [] (S' := []) (by kernel_rfl) ?_
  refine OpsT.done ?_
  refine Qn.then ?_
  refine CodT.seq ?_
  refine CodT.regionL [0, 1, 2, 3, 4, 5] (by kernel_rfl) ?_
  refine OpsT.cons (Does.buildSlice (en := (cI .u8)) (d := 4) (n := 1) (T := 31) (ps := [(0, .int .u8 34)]) ([34] : List Int) (by kernel_rfl) Go.Proofs.Tryd.underlying31 ty5 (by kernel_rfl) (by kernel_rfl) (by kernel_rfl) (by kernel_rfl) (len_all (fun _ => rfl)) hI ?_)
  intro b1 w hI
  refine OpsT.cons (Does.b2sOwn (d := 5) (src := 31) (dst := 9) (xs := ([34] : List Int)) (by kernel_rfl) Go.Proofs.Tryd.underlying31 Go.Proofs.Tryd.underlying5 Go.Proofs.Tryd.underlying9 hI ?_)
  obtain ⟨hg2, h0⟩ := guardS h0
  refine OpsT.cons (Does.yi (Yl.cat (d := 6) (T := 9) (x := (⟨#[97]⟩ : ByteArray)) (y := strOfNums ([34] : List Int)) (by kernel_rfl) hg2) hI ?_)
  obtain ⟨hg3, h0⟩ := guardS h0
  refine OpsT.cons (Does.yi (Yl.cat (d := 7) (T := 9) (x := (⟨#[97]⟩ : ByteArray) ++ (strOfNums ([34] : List Int))) (y := (⟨#[98]⟩ : ByteArray)) (by kernel_rfl) hg3) hI ?_)
  obtain ⟨y5, hc4, h0⟩ := bindS h0
  try dsimp only at h0
  refine OpsT.cons (Does.call (d := some 8) (n := 12) (vs := [.string (((⟨#[97]⟩ : ByteArray) ++ (strOfNums ([34] : List Int))) ++ (⟨#[98]⟩ : ByteArray))]) (by kernel_rfl) en12 (c12 w0 w _ _ hI hT (((⟨#[97]⟩ : ByteArray) ++ (strOfNums ([34] : List Int))) ++ (⟨#[98]⟩ : ByteArray)) _ hc4) ?_)
  rintro e w ⟨rfl, hI⟩
  refine ⟨_, rfl, ?_⟩
  refine OpsT.pures (r := []) [5] [1] (S' := [(1, .string y5)]) (by kernel_rfl) ?_
  refine OpsT.done ?_
  refine Qn.then ?_
  refine CodT.seq ?_
  refine CodT.regionL [0, 1, 2, 3, 4, 5, 6] (by kernel_rfl) ?_
  refine OpsT.pures (r := [1, 2, 3, 4, 5, 6]) [0] [1, 10] (S' := [(1, .string y5), (10, .string y5)]) (by kernel_rfl) ?_
  obtain ⟨⟨y7, y8⟩, hc6, h0⟩ := bindS h0
  try dsimp only at h0
  refine OpsT.cons (Does.call (d := some 11) (n := 5) (vs := [.string y5]) (by kernel_rfl) en5 (c5 w0 w _ _ hI hT y5 _ hc6) ?_)
  rintro e w ⟨rfl, hI⟩
  refine ⟨_, rfl, ?_⟩
  refine OpsT.pures (r := []) [2, 3, 4, 5, 6] [1, 2, 3] (S' := [(1, .string y5), (2, .string y7), (3, .bool y8)]) (by kernel_rfl) ?_
  refine OpsT.done ?_
  refine Qn.then ?_
  obtain ⟨r1, h1, h0⟩ := bindS h0
  refine CodT.meet (fun a w => ∃ (x9 : Bool), x9 = r1 ∧ Fr 49 [(0, .bool x9)] a ∧ Inv w0 Z w A) ?_ ?_
  ·
    refine CodT.regionL [0, 1, 2, 3, 4, 5, 6, 7, 8, 9, 10, 11, 12, 13, 14, 15, 16, 17, 18, 19, 20, 21, 22, 23, 24, 25, 26, 27, 28, 29, 30, 31, 32, 33, 34, 35] (by kernel_rfl) ?_
    refine OpsT.pures (r := [1, 2, 3, 4, 5, 6, 7, 8, 9, 10, 11, 12, 13, 14, 15, 16, 17, 18, 19, 20, 21, 22, 23, 24, 25, 26, 27, 28, 29, 30, 31, 32, 33, 34, 35]) [0] [2, 3, 14] (S' := [(2, .string y7), (3, .bool y8), (14, .string y5)]) (by kernel_rfl) ?_
    refine OpsT.cons (Does.buildSlice (en := (cI .u8)) (d := 15) (n := 6) (T := 31) (ps := [(0, .int .u8 34), (1, .int .u8 97), (2, .int .u8 92), (3, .int .u8 34), (4, .int .u8 98), (5, .int .u8 34)]) ([34, 97, 92, 34, 98, 34] : List Int) (by kernel_rfl) Go.Proofs.Tryd.underlying31 ty5 (by kernel_rfl) (by kernel_rfl) (by kernel_rfl) (by kernel_rfl) (len_all (fun _ => rfl)) hI ?_)
    intro b10 w hI
    refine OpsT.cons (Does.b2sOwn (d := 16) (src := 31) (dst := 9) (xs := ([34, 97, 92, 34, 98, 34] : List Int)) (by kernel_rfl) Go.Proofs.Tryd.underlying31 Go.Proofs.Tryd.underlying5 Go.Proofs.Tryd.underlying9 hI ?_)
    refine OpsT.pures (r := [5, 6, 7, 8, 9, 10, 11, 12, 13, 14, 15, 16, 17, 18, 19, 20, 21, 22, 23, 24, 25, 26, 27, 28, 29, 30, 31, 32, 33, 34, 35]) [3, 4] [2, 3, 18] (S' := [(2, .string y7), (3, .bool y8), (18, .bool (seq y5 (strOfNums ([34, 97, 92, 34, 98, 34] : List Int))))]) (by kernel_rfl) ?_
    by_cases hb11 : (seq y5 (strOfNums ([34, 97, 92, 34, 98, 34] : List Int))) = true
    · rw [if_pos hb11] at h1
      refine OpsT.keep [2, 3, 18] (S' := [(2, .string y7), (3, .bool y8), (18, .bool true)]) (by simp only [hb11]; kernel_rfl) ?_
      refine OpsT.pures (r := [6, 7, 8, 9, 10, 11, 12, 13, 14, 15, 16, 17, 18, 19, 20, 21, 22, 23, 24, 25, 26, 27, 28, 29, 30, 31, 32, 33, 34, 35]) [5] [3, 18, 19] (S' := [(3, .bool y8), (18, .bool true), (19, .string y7)]) (by kernel_rfl) ?_
      refine OpsT.cons (Does.buildSlice (en := (cI .u8)) (d := 20) (n := 1) (T := 31) (ps := [(0, .int .u8 34)]) ([34] : List Int) (by kernel_rfl) Go.Proofs.Tryd.underlying31 ty5 (by kernel_rfl) (by kernel_rfl) (by kernel_rfl) (by kernel_rfl) (len_all (fun _ => rfl)) hI ?_)
      intro b12 w hI
      refine OpsT.cons (Does.b2sOwn (d := 21) (src := 31) (dst := 9) (xs := ([34] : List Int)) (by kernel_rfl) Go.Proofs.Tryd.underlying31 Go.Proofs.Tryd.underlying5 Go.Proofs.Tryd.underlying9 hI ?_)
      obtain ⟨hg13, h1⟩ := guardS h1
      refine OpsT.cons (Does.yi (Yl.cat (d := 22) (T := 9) (x := (⟨#[97]⟩ : ByteArray)) (y := strOfNums ([34] : List Int)) (by kernel_rfl) hg13) hI ?_)
      obtain ⟨hg14, h1⟩ := guardS h1
      refine OpsT.cons (Does.yi (Yl.cat (d := 23) (T := 9) (x := (⟨#[97]⟩ : ByteArray) ++ (strOfNums ([34] : List Int))) (y := (⟨#[98]⟩ : ByteArray)) (by kernel_rfl) hg14) hI ?_)
      refine OpsT.pures (r := [13, 14, 15, 16, 17, 18, 19, 20, 21, 22, 23, 24, 25, 26, 27, 28, 29, 30, 31, 32, 33, 34, 35]) [10, 11, 12] [3, 26] (S' := [(3, .bool y8), (26, .bool (seq y7 (((⟨#[97]⟩ : ByteArray) ++ (strOfNums ([34] : List Int))) ++ (⟨#[98]⟩ : ByteArray))))]) (by kernel_rfl) ?_
      by_cases hb15 : (seq y7 (((⟨#[97]⟩ : ByteArray) ++ (strOfNums ([34] : List Int))) ++ (⟨#[98]⟩ : ByteArray))) = true
      · rw [if_pos hb15] at h1
        refine OpsT.keep [3, 26] (S' := [(3, .bool y8), (26, .bool true)]) (by simp only [hb15]; kernel_rfl) ?_
        refine OpsT.pures (r := [16, 17, 18, 19, 20, 21, 22, 23, 24, 25, 26, 27, 28, 29, 30, 31, 32, 33, 34, 35]) [13, 14, 15] [29] (S' := [(29, .bool y8)]) (by kernel_rfl) ?_
        by_cases hb16 : y8 = true
        · rw [if_pos hb16] at h1
          refine OpsT.keep [29] (S' := [(29, .bool true)]) (by simp only [hb16]; kernel_rfl) ?_
          obtain ⟨y18, hc17, h1⟩ := bindS h1
          try dsimp only at h1
          refine OpsT.cons (Does.call (d := some 30) (n := 9) (vs := [.string (⟨#[120, 32, 121]⟩ : ByteArray)]) (by kernel_rfl) en9 (c9 w0 w _ _ hI hT (⟨#[120, 32, 121]⟩ : ByteArray) _ hc17) ?_)
          rintro e w ⟨rfl, hI⟩
          refine ⟨_, rfl, ?_⟩
          refine OpsT.pures (r := [19, 20, 21, 22, 23, 24, 25, 26, 27, 28, 29, 30, 31, 32, 33, 34, 35]) [17, 18] [32] (S' := [(32, .bool y18)]) (by kernel_rfl) ?_
          by_cases hb19 : y18 = true
          · rw [if_pos hb19] at h1
            refine OpsT.keep [32] (S' := [(32, .bool true)]) (by simp only [hb19]; kernel_rfl) ?_
            obtain ⟨y21, hc20, h1⟩ := bindS h1
            try dsimp only at h1
            refine OpsT.cons (Does.call (d := some 33) (n := 9) (vs := [.string (⟨#[32, 120]⟩ : ByteArray)]) (by kernel_rfl) en9 (c9 w0 w _ _ hI hT (⟨#[32, 120]⟩ : ByteArray) _ hc20) ?_)
            rintro e w ⟨rfl, hI⟩
            refine ⟨_, rfl, ?_⟩
            refine OpsT.pures (r := [23, 24, 25, 26, 27, 28, 29, 30, 31, 32, 33, 34, 35]) [20, 21, 22] [36] (S' := [(36, .bool (!y21))]) (by kernel_rfl) ?_
            by_cases hb22 : (!y21) = true
            · rw [if_pos hb22] at h1
              refine OpsT.keep [36] (S' := [(36, .bool true)]) (by simp only [hb22]; kernel_rfl) ?_
              refine OpsT.cons (Does.buildSlice (en := (cI .u8)) (d := 37) (n := 3) (T := 31) (ps := [(0, .int .u8 195), (1, .int .u8 169), (2, .int .u8 255)]) ([195, 169, 255] : List Int) (by kernel_rfl) Go.Proofs.Tryd.underlying31 ty5 (by kernel_rfl) (by kernel_rfl) (by kernel_rfl) (by kernel_rfl) (len_all (fun _ => rfl)) hI ?_)
              intro b23 w hI
              refine OpsT.cons (Does.b2sOwn (d := 38) (src := 31) (dst := 9) (xs := ([195, 169, 255] : List Int)) (by kernel_rfl) Go.Proofs.Tryd.underlying31 Go.Proofs.Tryd.underlying5 Go.Proofs.Tryd.underlying9 hI ?_)
              obtain ⟨y25, hc24, h1⟩ := bindS h1
              try dsimp only at h1
              refine OpsT.cons (Does.call (d := some 39) (n := 10) (vs := [.string (strOfNums ([195, 169, 255] : List Int))]) (by kernel_rfl) en10 (c10 w0 w _ _ hI hT (strOfNums ([195, 169, 255] : List Int)) _ hc24) ?_)
              rintro e w ⟨rfl, hI⟩
              refine ⟨_, rfl, ?_⟩
              refine OpsT.pures (r := [29, 30, 31, 32, 33, 34, 35]) [26, 27, 28] [42] (S' := [(42, .bool (y25 == 2))]) (by kernel_rfl) ?_
              by_cases hb26 : (y25 == 2) = true
              · rw [if_pos hb26] at h1
                refine OpsT.keep [42] (S' := [(42, .bool true)]) (by simp only [hb26]; kernel_rfl) ?_
                obtain ⟨y28, hc27, h1⟩ := bindS h1
                try dsimp only at h1
                refine OpsT.cons (Does.call (d := some 43) (n := 14) (vs := [.string (⟨#[97]⟩ : ByteArray), .string (⟨#[98]⟩ : ByteArray)]) (by kernel_rfl) en14 (c14 w0 w _ _ hI hT (⟨#[97]⟩ : ByteArray) (⟨#[98]⟩ : ByteArray) _ hc27) ?_)
                rintro e w ⟨rfl, hI⟩
                refine ⟨_, rfl, ?_⟩
                refine OpsT.pures (r := [32, 33, 34, 35]) [30, 31] [45] (S' := [(45, .bool y28)]) (by kernel_rfl) ?_
                by_cases hb29 : y28 = true
                · rw [if_pos hb29] at h1
                  refine OpsT.keep [45] (S' := [(45, .bool true)]) (by simp only [hb29]; kernel_rfl) ?_
                  obtain ⟨y31, hc30, h1⟩ := bindS h1
                  try dsimp only at h1
                  refine OpsT.cons (Does.call (d := some 46) (n := 14) (vs := [.string (⟨#[98]⟩ : ByteArray), .string (⟨#[97]⟩ : ByteArray)]) (by kernel_rfl) en14 (c14 w0 w _ _ hI hT (⟨#[98]⟩ : ByteArray) (⟨#[97]⟩ : ByteArray) _ hc30) ?_)
                  rintro e w ⟨rfl, hI⟩
                  refine ⟨_, rfl, ?_⟩
                  refine OpsT.pures (r := []) [33, 34, 35] [0] (S' := [(0, .bool (!y31))]) (by kernel_rfl) ?_
                  refine OpsT.done ?_
                  have hI := hI.drop
                  have hI := hI.drop
                  have hI := hI.drop
                  have hI := hI.drop
                  have e := someS h1
                  subst e
                  exact Qn.thenJ fun a ha => ⟨!y31, rfl, ha.keep [0] (by kernel_rfl), hI⟩
                · rw [if_neg hb29] at h1
                  have hb29 : y28 = false := by simpa using hb29
                  refine OpsT.keep [45] (S' := [(45, .bool false)]) (by simp only [hb29]; kernel_rfl) ?_
                  refine OpsT.pures (r := []) [32, 33, 34, 35] [0] (S' := [(0, .bool false)]) (by kernel_rfl) ?_
                  refine OpsT.done ?_
                  have hI := hI.drop
                  have hI := hI.drop
                  have hI := hI.drop
                  have hI := hI.drop
                  have e := someS h1
                  subst e
                  exact Qn.thenJ fun a ha => ⟨false, rfl, ha.keep [0] (by kernel_rfl), hI⟩
              · rw [if_neg hb26] at h1
                have hb26 : (y25 == 2) = false := by simpa using hb26
                refine OpsT.keep [42] (S' := [(42, .bool false)]) (by simp only [hb26]; kernel_rfl) ?_
                refine OpsT.pures (r := []) [29, 30, 31, 32, 33, 34, 35] [0] (S' := [(0, .bool false)]) (by kernel_rfl) ?_
                refine OpsT.done ?_
                have hI := hI.drop
                have hI := hI.drop
                have hI := hI.drop
                have hI := hI.drop
                have e := someS h1
                subst e
                exact Qn.thenJ fun a ha => ⟨false, rfl, ha.keep [0] (by kernel_rfl), hI⟩
            · rw [if_neg hb22] at h1
              have hb22 : (!y21) = false := by simpa using hb22
              refine OpsT.keep [36] (S' := [(36, .bool false)]) (by simp only [hb22]; kernel_rfl) ?_
              refine OpsT.pures (r := []) [23, 24, 25, 26, 27, 28, 29, 30, 31, 32, 33, 34, 35] [0] (S' := [(0, .bool false)]) (by kernel_rfl) ?_
              refine OpsT.done ?_
              have hI := hI.drop
              have hI := hI.drop
              have hI := hI.drop
              have e := someS h1
              subst e
              exact Qn.thenJ fun a ha => ⟨false, rfl, ha.keep [0] (by kernel_rfl), hI⟩
          · rw [if_neg hb19] at h1
            have hb19 : y18 = false := by simpa using hb19
            refine OpsT.keep [32] (S' := [(32, .bool false)]) (by simp only [hb19]; kernel_rfl) ?_
            refine OpsT.pures (r := []) [19, 20, 21, 22, 23, 24, 25, 26, 27, 28, 29, 30, 31, 32, 33, 34, 35] [0] (S' := [(0, .bool false)]) (by kernel_rfl) ?_
            refine OpsT.done ?_
            have hI := hI.drop
            have hI := hI.drop
            have hI := hI.drop
            have e := someS h1
            subst e
            exact Qn.thenJ fun a ha => ⟨false, rfl, ha.keep [0] (by kernel_rfl), hI⟩
        · rw [if_neg hb16] at h1
          have hb16 : y8 = false := by simpa using hb16
          refine OpsT.keep [29] (S' := [(29, .bool false)]) (by simp only [hb16]; kernel_rfl) ?_
          refine OpsT.pures (r := []) [16, 17, 18, 19, 20, 21, 22, 23, 24, 25, 26, 27, 28, 29, 30, 31, 32, 33, 34, 35] [0] (S' := [(0, .bool false)]) (by kernel_rfl) ?_
          refine OpsT.done ?_
          have hI := hI.drop
          have hI := hI.drop
          have hI := hI.drop
          have e := someS h1
          subst e
          exact Qn.thenJ fun a ha => ⟨false, rfl, ha.keep [0] (by kernel_rfl), hI⟩
      · rw [if_neg hb15] at h1
        have hb15 : (seq y7 (((⟨#[97]⟩ : ByteArray) ++ (strOfNums ([34] : List Int))) ++ (⟨#[98]⟩ : ByteArray))) = false := by simpa using hb15
        refine OpsT.keep [3, 26] (S' := [(3, .bool y8), (26, .bool false)]) (by simp only [hb15]; kernel_rfl) ?_
        refine OpsT.pures (r := []) [13, 14, 15, 16, 17, 18, 19, 20, 21, 22, 23, 24, 25, 26, 27, 28, 29, 30, 31, 32, 33, 34, 35] [0] (S' := [(0, .bool false)]) (by kernel_rfl) ?_
        refine OpsT.done ?_
        have hI := hI.drop
        have hI := hI.drop
        have hI := hI.drop
        have e := someS h1
        subst e
        exact Qn.thenJ fun a ha => ⟨false, rfl, ha.keep [0] (by kernel_rfl), hI⟩
    · rw [if_neg hb11] at h1
      have hb11 : (seq y5 (strOfNums ([34, 97, 92, 34, 98, 34] : List Int))) = false := by simpa using hb11
      refine OpsT.keep [2, 3, 18] (S' := [(2, .string y7), (3, .bool y8), (18, .bool false)]) (by simp only [hb11]; kernel_rfl) ?_
      refine OpsT.pures (r := []) [5, 6, 7, 8, 9, 10, 11, 12, 13, 14, 15, 16, 17, 18, 19, 20, 21, 22, 23, 24, 25, 26, 27, 28, 29, 30, 31, 32, 33, 34, 35] [0] (S' := [(0, .bool false)]) (by kernel_rfl) ?_
      refine OpsT.done ?_
      have hI := hI.drop
      have hI := hI.drop
      have e := someS h1
      subst e
      exact Qn.thenJ fun a ha => ⟨false, rfl, ha.keep [0] (by kernel_rfl), hI⟩
  ·
    rintro a w ⟨x9, rfl, ha, hI⟩
    try dsimp only at h0
    refine CodT.of ?_ ha
    refine CodT.ret ?_
    have e := someS h0
    subst e
    refine Qn.keep [0] (S' := [(0, .bool x9)]) (by kernel_rfl) ?_
    exact post_ret (v := .bool x9) (fun a ha => RunRes.run (vs := [.bool x9]) (.tmp (t := 0) (by kernel_rfl) .nil) ha (by kernel_rfl)) ⟨rfl, hI⟩
set_option maxRecDepth 100000 in
set_option maxHeartbeats 4000000 in
/-- cenotaph/cenotaphref03.digit -/
theorem c18 (w0 w : World) (Z : Hp) (A : HP) (hI : Inv w0 Z w A) (hT : Tabs Z) (a0 : Int) (r : Int) (h0 : ref03_digit a0 = some r) :
    Calls prog 18 #[.int .u8 a0] w (fun e w' => e = .returned (.int .i64 r) ∧ Inv w0 Z w' A) := by
  have e4 := calls_intro (R := (fun e w' => e = .returned (.int .i64 r) ∧ Inv w0 Z w' A)) (w := w) (args := [.int .u8 a0]) (fn := Go.Proofs.Tryd.f18) 13 Go.Proofs.Tryd.func18 (by rfl) Go.Proofs.Tryd.ntmps18 (by kernel_rfl)
  refine e4 ?_
  clear e4
  unfold ref03_digit at h0
  refine CodT.seq ?_
  refine CodT.regionL [0] (by kernel_rfl) ?_
  refine OpsT.pures (r := []) [0] [0] (S' := [(0, .int .u8 a0)]) (by kernel_rfl) ?_
  refine OpsT.done ?_
  refine Qn.then ?_
  refine CodT.seq ?_
  refine CodT.seq ?_
  refine CodT.regionL [0] (by kernel_rfl) ?_
  refine OpsT.pures (r := []) [0] [0, 3] (S' := [(0, .int .u8 a0), (3, .int .i64 0)]) (by kernel_rfl) ?_
  refine OpsT.done ?_
  refine Qn.then ?_
  obtain ⟨r1, h1, h0⟩ := bindS h0
  refine CodT.meet1 (fun a w => .inr () = r1 ∧ Fr 13 [] a ∧ Inv w0 Z w A) ?_ ?_
  ·
    refine CodT.block ?_
    refine (fun a ha => wp_loopN (fun k a w => ∃ (x1 : Int), ref03_digit.l0 a0 k x1 = some r1 ∧ Fr 13 [(0, .int .u8 a0), (3, .int .i64 x1)] a ∧ Inv w0 Z w A) ?_ FU a w ⟨0, h1, ha.keep [0, 3] (by kernel_rfl), hI⟩)
    clear h1 hI
    rintro k a w ⟨x1, h1, ha, hI⟩
    rcases k with _ | k
    · cases h1
    simp only [ref03_digit.l0] at h1
    refine CodT.of ?_ ha
    refine CodT.seq ?_
    refine CodT.seq ?_
    refine CodT.regionL [0, 1] (by kernel_rfl) ?_
    refine OpsT.pures (r := []) [0, 1] [0, 3, 5] (S' := [(0, .int .u8 a0), (3, .int .i64 x1), (5, .bool (decide (x1 < 16)))]) (by kernel_rfl) ?_
    refine OpsT.done ?_
    refine Qn.then ?_
    by_cases hb2 : (decide (x1 < 16)) = true
    · rw [if_pos hb2] at h1
      refine CodT.yes' (b := decide (x1 < 16)) (by kernel_rfl) hb2 ?_
      refine CodT.skip ?_
      refine Qn.then ?_
      refine CodT.seq ?_
      refine CodT.block ?_
      refine CodT.seq ?_
      refine CodT.regionL [0, 1, 2, 3] (by kernel_rfl) ?_
      refine OpsT.pures (r := [1, 2, 3]) [0] [0, 3, 8] (S' := [(0, .int .u8 a0), (3, .int .i64 x1), (8, .int .i64 x1)]) (by kernel_rfl) ?_
      obtain ⟨hg3, h1⟩ := guardS h1
      refine OpsT.cons (Does.yi (Yl.indexStr (d := 9) (T := 9) (k := .i64) (j := x1) (s := (⟨#[48, 49, 50, 51, 52, 53, 54, 55, 56, 57, 97, 98, 99, 100, 101, 102]⟩ : ByteArray)) (by kernel_rfl) Go.Proofs.Tryd.underlying9 hg3.1 hg3.2) hI ?_)
      refine OpsT.pures (r := []) [2, 3] [0, 3, 11] (S' := [(0, .int .u8 a0), (3, .int .i64 x1), (11, .bool ((bt (⟨#[48, 49, 50, 51, 52, 53, 54, 55, 56, 57, 97, 98, 99, 100, 101, 102]⟩ : ByteArray) x1) == a0))]) (by kernel_rfl) ?_
      refine OpsT.done ?_
      refine Qn.then ?_
      by_cases hb4 : ((bt (⟨#[48, 49, 50, 51, 52, 53, 54, 55, 56, 57, 97, 98, 99, 100, 101, 102]⟩ : ByteArray) x1) == a0) = true
      · rw [if_pos hb4] at h1
        refine CodT.yes' (b := (bt (⟨#[48, 49, 50, 51, 52, 53, 54, 55, 56, 57, 97, 98, 99, 100, 101, 102]⟩ : ByteArray) x1) == a0) (by kernel_rfl) hb4 ?_
        refine CodT.seq ?_
        refine CodT.regionL [0, 1] (by kernel_rfl) ?_
        refine OpsT.pures (r := []) [0, 1] [2] (S' := [(2, .int .i64 x1)]) (by kernel_rfl) ?_
        refine OpsT.done ?_
        refine Qn.then ?_
        refine CodT.ret ?_
        refine Qn.block_ret ?_
        refine Qn.ret_then ?_
        refine Qn.ret_then ?_
        refine Qn.block_ret ?_
        refine Qn.ret_then ?_
        refine Qn.ret_then ?_
        have e := someS h1
        subst e
        try dsimp only at h0
        have e := someS h0
        subst e
        refine Qn.keep [2] (S' := [(2, .int .i64 x1)]) (by kernel_rfl) ?_
        exact post_ret (v := .int .i64 x1) (fun a ha => RunRes.run (vs := [.int .i64 x1]) (.tmp (t := 2) (by kernel_rfl) .nil) ha (by kernel_rfl)) ⟨rfl, hI⟩
      · rw [if_neg hb4] at h1
        refine CodT.no' (b := (bt (⟨#[48, 49, 50, 51, 52, 53, 54, 55, 56, 57, 97, 98, 99, 100, 101, 102]⟩ : ByteArray) x1) == a0) (by kernel_rfl) (by simpa using hb4) ?_
        refine CodT.skip ?_
        refine Qn.block_normal ?_
        refine Qn.then ?_
        refine CodT.regionL [0, 1, 2] (by kernel_rfl) ?_
        refine OpsT.pures (r := []) [0, 1, 2] [0, 3] (S' := [(0, .int .u8 a0), (3, .int .i64 (wi64 (x1 + 1)))]) (by kernel_rfl) ?_
        refine OpsT.done ?_
        exact Qn.thenJ fun a ha => ⟨k, Nat.lt_succ_self k, wi64 (x1 + 1), h1, ha.keep [0, 3] (by kernel_rfl), hI⟩
    · rw [if_neg hb2] at h1
      refine CodT.no' (b := decide (x1 < 16)) (by kernel_rfl) (by simpa using hb2) ?_
      refine CodT.exit ?_
      refine Qn.exit_then ?_
      refine Qn.exit_then ?_
      refine Qn.block ?_
      have e := someS h1
      subst e
      exact Qn.thenJ fun a ha => ⟨rfl, ha.keep [] (by kernel_rfl), hI⟩
  ·
    rintro a w ⟨rfl, ha, hI⟩
    try dsimp only at h0
    refine Qn.of ?_ ha
    refine Qn.then ?_
    refine CodT.seq ?_
    refine CodT.regionL [0] (by kernel_rfl) ?_
    refine OpsT.pures (r := []) [0] [2] (S' := [(2, .int .i64 (-1))]) (by kernel_rfl) ?_
    refine OpsT.done ?_
    refine Qn.then ?_
    refine CodT.ret ?_
    have e := someS h0
    subst e
    refine Qn.keep [2] (S' := [(2, .int .i64 (-1))]) (by kernel_rfl) ?_
    exact post_ret (v := .int .i64 (-1)) (fun a ha => RunRes.run (vs := [.int .i64 (-1)]) (.tmp (t := 2) (by kernel_rfl) .nil) ha (by kernel_rfl)) ⟨rfl, hI⟩
set_option maxRecDepth 100000 in
set_option maxHeartbeats 4000000 in
/-- cenotaph/cenotaphref03.Rune -/
theorem c21 (w0 w : World) (Z : Hp) (A : HP) (hI : Inv w0 Z w A) (hT : Tabs Z) (a0 : ByteArray) (r : (Int × Int)) (h0 : ref03_Rune a0 = some r) :
    Calls prog 21 #[.string a0] w (fun e w' => e = .returned (.tuple #[.int .i64 r.1, .int .i64 r.2]) ∧ Inv w0 Z w' A) := by
  have e4 := calls_intro (R := (fun e w' => e = .returned (.tuple #[.int .i64 r.1, .int .i64 r.2]) ∧ Inv w0 Z w' A)) (w := w) (args := [.string a0]) (fn := Go.Proofs.Tryd.f21) 85 Go.Proofs.Tryd.func21 (by rfl) Go.Proofs.Tryd.ntmps21 (by kernel_rfl)
  refine e4 ?_
  clear e4
  unfold ref03_Rune at h0
  refine CodT.seq ?_
  refine CodT.regionL [0, 1] (by kernel_rfl) ?_
  refine OpsT.pures (r := []) [0, 1] [0] (S' := [(0, .string a0)]) (by kernel_rfl) ?_
  refine OpsT.done ?_
  refine Qn.then ?_
  refine CodT.seq ?_
  refine CodT.regionL [0, 1, 2, 3] (by kernel_rfl) ?_
  refine OpsT.pures (r := [1, 2, 3]) [0] [0, 10] (S' := [(0, .string a0), (10, .string a0)]) (by kernel_rfl) ?_
  obtain ⟨hg1, h0⟩ := guardS h0
  refine OpsT.cons (Does.yi (Yl.indexStr (d := 11) (T := 9) (k := .i64) (j := 0) (s := a0) (by kernel_rfl) Go.Proofs.Tryd.underlying9 hg1.1 hg1.2) hI ?_)
  refine OpsT.pures (r := []) [2, 3] [0, 4] (S' := [(0, .string a0), (4, .int .i64 (wi64 (bt a0 0)))]) (by kernel_rfl) ?_
  refine OpsT.done ?_
  refine Qn.then ?_
  refine CodT.seq ?_
  refine CodT.seq ?_
  refine CodT.regionL [0, 1] (by kernel_rfl) ?_
  refine OpsT.pures (r := []) [0, 1] [0, 4, 14] (S' := [(0, .string a0), (4, .int .i64 (wi64 (bt a0 0))), (14, .bool (decide ((wi64 (bt a0 0)) < 128)))]) (by kernel_rfl) ?_
  refine OpsT.done ?_
  refine Qn.then ?_
  by_cases hb2 : (decide ((wi64 (bt a0 0)) < 128)) = true
  · rw [if_pos hb2] at h0
    refine CodT.yes' (b := decide ((wi64 (bt a0 0)) < 128)) (by kernel_rfl) hb2 ?_
    refine CodT.seq ?_
    refine CodT.regionL [0, 1, 2] (by kernel_rfl) ?_
    refine OpsT.pures (r := []) [0, 1, 2] [2, 3] (S' := [(2, .int .i64 (wi64 (bt a0 0))), (3, .int .i64 1)]) (by kernel_rfl) ?_
    refine OpsT.done ?_
    refine Qn.then ?_
    refine CodT.ret ?_
    refine Qn.ret_then ?_
    have e := someS h0
    subst e
    refine Qn.keep [2, 3] (S' := [(2, .int .i64 (wi64 (bt a0 0))), (3, .int .i64 1)]) (by kernel_rfl) ?_
    exact post_ret (v := .tuple #[.int .i64 (wi64 (bt a0 0)), .int .i64 1]) (fun a ha => RunRes.run (vs := [.int .i64 (wi64 (bt a0 0)), .int .i64 1]) (.tmp (t := 2) (by kernel_rfl) (.tmp (t := 3) (by kernel_rfl) .nil)) ha (by kernel_rfl)) ⟨rfl, hI⟩
  · rw [if_neg hb2] at h0
    refine CodT.no' (b := decide ((wi64 (bt a0 0)) < 128)) (by kernel_rfl) (by simpa using hb2) ?_
    refine CodT.skip ?_
    refine Qn.then ?_
    refine CodT.seq ?_
    refine CodT.regionL [0] (by kernel_rfl) ?_
    refine OpsT.pures (r := []) [0] [0, 4, 5] (S' := [(0, .string a0), (4, .int .i64 (wi64 (bt a0 0))), (5, .int .i64 0)]) (by kernel_rfl) ?_
    refine OpsT.done ?_
    refine Qn.then ?_
    refine CodT.seq ?_
    refine CodT.regionL [0] (by kernel_rfl) ?_
    refine OpsT.pures (r := []) [0] [0, 4, 5, 6] (S' := [(0, .string a0), (4, .int .i64 (wi64 (bt a0 0))), (5, .int .i64 0), (6, .int .i64 0)]) (by kernel_rfl) ?_
    refine OpsT.done ?_
    refine Qn.then ?_
    refine CodT.seq ?_
    refine CodT.regionL [0] (by kernel_rfl) ?_
    refine OpsT.pures (r := []) [0] [0, 4, 5, 6, 7] (S' := [(0, .string a0), (4, .int .i64 (wi64 (bt a0 0))), (5, .int .i64 0), (6, .int .i64 0), (7, .int .i64 0)]) (by kernel_rfl) ?_
    refine OpsT.done ?_
    refine Qn.then ?_
    obtain ⟨r1, h1, h0⟩ := bindS h0
    refine CodT.meet (fun a w => ∃ (x3 : Int) (x4 : Int) (x5 : Int), (x3, x4, x5) = r1 ∧ Fr 85 [(0, .string a0), (5, .int .i64 x3), (6, .int .i64 x4), (7, .int .i64 x5)] a ∧ Inv w0 Z w A) ?_ ?_
    ·
      obtain ⟨r2, h2, h1⟩ := bindS h1
      refine CodT.meet (fun a w => ∃ (x6 : Bool), x6 = r2 ∧ Fr 85 [(0, .string a0), (4, .int .i64 (wi64 (bt a0 0))), (5, .int .i64 0), (6, .int .i64 0), (7, .int .i64 0), (21, .bool x6)] a ∧ Inv w0 Z w A) ?_ ?_
      ·
        refine CodT.regionL [0, 1, 2, 3, 4, 5] (by kernel_rfl) ?_
        refine OpsT.pures (r := [3, 4, 5]) [0, 1, 2] [0, 4, 5, 6, 7, 18] (S' := [(0, .string a0), (4, .int .i64 (wi64 (bt a0 0))), (5, .int .i64 0), (6, .int .i64 0), (7, .int .i64 0), (18, .bool (decide ((wi64 (bt a0 0)) ≥ 194)))]) (by kernel_rfl) ?_
        by_cases hb7 : (decide ((wi64 (bt a0 0)) ≥ 194)) = true
        · rw [if_pos hb7] at h2
          refine OpsT.keep [0, 4, 5, 6, 7, 18] (S' := [(0, .string a0), (4, .int .i64 (wi64 (bt a0 0))), (5, .int .i64 0), (6, .int .i64 0), (7, .int .i64 0), (18, .bool true)]) (by simp only [hb7]; kernel_rfl) ?_
          refine OpsT.pures (r := []) [3, 4, 5] [0, 4, 5, 6, 7, 21] (S' := [(0, .string a0), (4, .int .i64 (wi64 (bt a0 0))), (5, .int .i64 0), (6, .int .i64 0), (7, .int .i64 0), (21, .bool (decide ((wi64 (bt a0 0)) < 224)))]) (by kernel_rfl) ?_
          refine OpsT.done ?_
          have e := someS h2
          subst e
          exact Qn.thenJ fun a ha => ⟨decide ((wi64 (bt a0 0)) < 224), rfl, ha.keep [0, 4, 5, 6, 7, 21] (by kernel_rfl), hI⟩
        · rw [if_neg hb7] at h2
          have hb7 : (decide ((wi64 (bt a0 0)) ≥ 194)) = false := by simpa using hb7
          refine OpsT.keep [0, 4, 5, 6, 7, 18] (S' := [(0, .string a0), (4, .int .i64 (wi64 (bt a0 0))), (5, .int .i64 0), (6, .int .i64 0), (7, .int .i64 0), (18, .bool false)]) (by simp only [hb7]; kernel_rfl) ?_
          refine OpsT.pures (r := []) [3, 4, 5] [0, 4, 5, 6, 7, 21] (S' := [(0, .string a0), (4, .int .i64 (wi64 (bt a0 0))), (5, .int .i64 0), (6, .int .i64 0), (7, .int .i64 0), (21, .bool false)]) (by kernel_rfl) ?_
          refine OpsT.done ?_
          have e := someS h2
          subst e
          exact Qn.thenJ fun a ha => ⟨false, rfl, ha.keep [0, 4, 5, 6, 7, 21] (by kernel_rfl), hI⟩
      ·
        rintro a w ⟨x6, rfl, ha, hI⟩
        try dsimp only at h1
        refine CodT.of ?_ ha
        by_cases hb8 : x6 = true
        · rw [if_pos hb8] at h1
          refine CodT.yes' (b := x6) (by kernel_rfl) hb8 ?_
          refine CodT.seq ?_
          refine CodT.regionL [0] (by kernel_rfl) ?_
          refine OpsT.pures (r := []) [0] [0, 4, 5] (S' := [(0, .string a0), (4, .int .i64 (wi64 (bt a0 0))), (5, .int .i64 2)]) (by kernel_rfl) ?_
          refine OpsT.done ?_
          refine Qn.then ?_
          refine CodT.seq ?_
          refine CodT.regionL [0] (by kernel_rfl) ?_
          refine OpsT.pures (r := []) [0] [0, 4, 5, 6] (S' := [(0, .string a0), (4, .int .i64 (wi64 (bt a0 0))), (5, .int .i64 2), (6, .int .i64 128)]) (by kernel_rfl) ?_
          refine OpsT.done ?_
          refine Qn.then ?_
          refine CodT.regionL [0, 1, 2] (by kernel_rfl) ?_
          refine OpsT.pures (r := []) [0, 1, 2] [0, 5, 6, 7] (S' := [(0, .string a0), (5, .int .i64 2), (6, .int .i64 128), (7, .int .i64 (wi64 ((wi64 (bt a0 0)) - 192)))]) (by kernel_rfl) ?_
          refine OpsT.done ?_
          have e := someS h1
          subst e
          exact Qn.thenJ fun a ha => ⟨2, 128, wi64 ((wi64 (bt a0 0)) - 192), rfl, ha.keep [0, 5, 6, 7] (by kernel_rfl), hI⟩
        · rw [if_neg hb8] at h1
          refine CodT.no' (b := x6) (by kernel_rfl) (by simpa using hb8) ?_
          obtain ⟨r2, h2, h1⟩ := bindS h1
          refine CodT.meet (fun a w => ∃ (x9 : Bool), x9 = r2 ∧ Fr 85 [(0, .string a0), (4, .int .i64 (wi64 (bt a0 0))), (5, .int .i64 0), (6, .int .i64 0), (7, .int .i64 0), (29, .bool x9)] a ∧ Inv w0 Z w A) ?_ ?_
          ·
            refine CodT.regionL [0, 1, 2, 3, 4, 5] (by kernel_rfl) ?_
            refine OpsT.pures (r := [3, 4, 5]) [0, 1, 2] [0, 4, 5, 6, 7, 26] (S' := [(0, .string a0), (4, .int .i64 (wi64 (bt a0 0))), (5, .int .i64 0), (6, .int .i64 0), (7, .int .i64 0), (26, .bool (decide ((wi64 (bt a0 0)) ≥ 224)))]) (by kernel_rfl) ?_
            by_cases hb10 : (decide ((wi64 (bt a0 0)) ≥ 224)) = true
            · rw [if_pos hb10] at h2
              refine OpsT.keep [0, 4, 5, 6, 7, 26] (S' := [(0, .string a0), (4, .int .i64 (wi64 (bt a0 0))), (5, .int .i64 0), (6, .int .i64 0), (7, .int .i64 0), (26, .bool true)]) (by simp only [hb10]; kernel_rfl) ?_
              refine OpsT.pures (r := []) [3, 4, 5] [0, 4, 5, 6, 7, 29] (S' := [(0, .string a0), (4, .int .i64 (wi64 (bt a0 0))), (5, .int .i64 0), (6, .int .i64 0), (7, .int .i64 0), (29, .bool (decide ((wi64 (bt a0 0)) < 240)))]) (by kernel_rfl) ?_
              refine OpsT.done ?_
              have e := someS h2
              subst e
              exact Qn.thenJ fun a ha => ⟨decide ((wi64 (bt a0 0)) < 240), rfl, ha.keep [0, 4, 5, 6, 7, 29] (by kernel_rfl), hI⟩
            · rw [if_neg hb10] at h2
              have hb10 : (decide ((wi64 (bt a0 0)) ≥ 224)) = false := by simpa using hb10
              refine OpsT.keep [0, 4, 5, 6, 7, 26] (S' := [(0, .string a0), (4, .int .i64 (wi64 (bt a0 0))), (5, .int .i64 0), (6, .int .i64 0), (7, .int .i64 0), (26, .bool false)]) (by simp only [hb10]; kernel_rfl) ?_
              refine OpsT.pures (r := []) [3, 4, 5] [0, 4, 5, 6, 7, 29] (S' := [(0, .string a0), (4, .int .i64 (wi64 (bt a0 0))), (5, .int .i64 0), (6, .int .i64 0), (7, .int .i64 0), (29, .bool false)]) (by kernel_rfl) ?_
              refine OpsT.done ?_
              have e := someS h2
              subst e
              exact Qn.thenJ fun a ha => ⟨false, rfl, ha.keep [0, 4, 5, 6, 7, 29] (by kernel_rfl), hI⟩
          ·
            rintro a w ⟨x9, rfl, ha, hI⟩
            try dsimp only at h1
            refine CodT.of ?_ ha
            by_cases hb11 : x9 = true
            · rw [if_pos hb11] at h1
              refine CodT.yes' (b := x9) (by kernel_rfl) hb11 ?_
              refine CodT.seq ?_
              refine CodT.regionL [0] (by kernel_rfl) ?_
              refine OpsT.pures (r := []) [0] [0, 4, 5] (S' := [(0, .string a0), (4, .int .i64 (wi64 (bt a0 0))), (5, .int .i64 3)]) (by kernel_rfl) ?_
              refine OpsT.done ?_
              refine Qn.then ?_
              refine CodT.seq ?_
              refine CodT.regionL [0] (by kernel_rfl) ?_
              refine OpsT.pures (r := []) [0] [0, 4, 5, 6] (S' := [(0, .string a0), (4, .int .i64 (wi64 (bt a0 0))), (5, .int .i64 3), (6, .int .i64 2048)]) (by kernel_rfl) ?_
              refine OpsT.done ?_
              refine Qn.then ?_
              refine CodT.regionL [0, 1, 2] (by kernel_rfl) ?_
              refine OpsT.pures (r := []) [0, 1, 2] [0, 5, 6, 7] (S' := [(0, .string a0), (5, .int .i64 3), (6, .int .i64 2048), (7, .int .i64 (wi64 ((wi64 (bt a0 0)) - 224)))]) (by kernel_rfl) ?_
              refine OpsT.done ?_
              have e := someS h1
              subst e
              exact Qn.thenJ fun a ha => ⟨3, 2048, wi64 ((wi64 (bt a0 0)) - 224), rfl, ha.keep [0, 5, 6, 7] (by kernel_rfl), hI⟩
            · rw [if_neg hb11] at h1
              refine CodT.no' (b := x9) (by kernel_rfl) (by simpa using hb11) ?_
              obtain ⟨r2, h2, h1⟩ := bindS h1
              refine CodT.meet (fun a w => ∃ (x12 : Bool), x12 = r2 ∧ Fr 85 [(0, .string a0), (4, .int .i64 (wi64 (bt a0 0))), (5, .int .i64 0), (6, .int .i64 0), (7, .int .i64 0), (37, .bool x12)] a ∧ Inv w0 Z w A) ?_ ?_
              ·
                refine CodT.regionL [0, 1, 2, 3, 4, 5] (by kernel_rfl) ?_
                refine OpsT.pures (r := [3, 4, 5]) [0, 1, 2] [0, 4, 5, 6, 7, 34] (S' := [(0, .string a0), (4, .int .i64 (wi64 (bt a0 0))), (5, .int .i64 0), (6, .int .i64 0), (7, .int .i64 0), (34, .bool (decide ((wi64 (bt a0 0)) ≥ 240)))]) (by kernel_rfl) ?_
                by_cases hb13 : (decide ((wi64 (bt a0 0)) ≥ 240)) = true
                · rw [if_pos hb13] at h2
                  refine OpsT.keep [0, 4, 5, 6, 7, 34] (S' := [(0, .string a0), (4, .int .i64 (wi64 (bt a0 0))), (5, .int .i64 0), (6, .int .i64 0), (7, .int .i64 0), (34, .bool true)]) (by simp only [hb13]; kernel_rfl) ?_
                  refine OpsT.pures (r := []) [3, 4, 5] [0, 4, 5, 6, 7, 37] (S' := [(0, .string a0), (4, .int .i64 (wi64 (bt a0 0))), (5, .int .i64 0), (6, .int .i64 0), (7, .int .i64 0), (37, .bool (decide ((wi64 (bt a0 0)) < 245)))]) (by kernel_rfl) ?_
                  refine OpsT.done ?_
                  have e := someS h2
                  subst e
                  exact Qn.thenJ fun a ha => ⟨decide ((wi64 (bt a0 0)) < 245), rfl, ha.keep [0, 4, 5, 6, 7, 37] (by kernel_rfl), hI⟩
                · rw [if_neg hb13] at h2
                  have hb13 : (decide ((wi64 (bt a0 0)) ≥ 240)) = false := by simpa using hb13
                  refine OpsT.keep [0, 4, 5, 6, 7, 34] (S' := [(0, .string a0), (4, .int .i64 (wi64 (bt a0 0))), (5, .int .i64 0), (6, .int .i64 0), (7, .int .i64 0), (34, .bool false)]) (by simp only [hb13]; kernel_rfl) ?_
                  refine OpsT.pures (r := []) [3, 4, 5] [0, 4, 5, 6, 7, 37] (S' := [(0, .string a0), (4, .int .i64 (wi64 (bt a0 0))), (5, .int .i64 0), (6, .int .i64 0), (7, .int .i64 0), (37, .bool false)]) (by kernel_rfl) ?_
                  refine OpsT.done ?_
                  have e := someS h2
                  subst e
                  exact Qn.thenJ fun a ha => ⟨false, rfl, ha.keep [0, 4, 5, 6, 7, 37] (by kernel_rfl), hI⟩
              ·
                rintro a w ⟨x12, rfl, ha, hI⟩
                try dsimp only at h1
                refine CodT.of ?_ ha
                by_cases hb14 : x12 = true
                · rw [if_pos hb14] at h1
                  refine CodT.yes' (b := x12) (by kernel_rfl) hb14 ?_
                  refine CodT.seq ?_
                  refine CodT.regionL [0] (by kernel_rfl) ?_
                  refine OpsT.pures (r := []) [0] [0, 4, 5] (S' := [(0, .string a0), (4, .int .i64 (wi64 (bt a0 0))), (5, .int .i64 4)]) (by kernel_rfl) ?_
                  refine OpsT.done ?_
                  refine Qn.then ?_
                  refine CodT.seq ?_
                  refine CodT.regionL [0] (by kernel_rfl) ?_
                  refine OpsT.pures (r := []) [0] [0, 4, 5, 6] (S' := [(0, .string a0), (4, .int .i64 (wi64 (bt a0 0))), (5, .int .i64 4), (6, .int .i64 65536)]) (by kernel_rfl) ?_
                  refine OpsT.done ?_
                  refine Qn.then ?_
                  refine CodT.regionL [0, 1, 2] (by kernel_rfl) ?_
                  refine OpsT.pures (r := []) [0, 1, 2] [0, 5, 6, 7] (S' := [(0, .string a0), (5, .int .i64 4), (6, .int .i64 65536), (7, .int .i64 (wi64 ((wi64 (bt a0 0)) - 240)))]) (by kernel_rfl) ?_
                  refine OpsT.done ?_
                  have e := someS h1
                  subst e
                  exact Qn.thenJ fun a ha => ⟨4, 65536, wi64 ((wi64 (bt a0 0)) - 240), rfl, ha.keep [0, 5, 6, 7] (by kernel_rfl), hI⟩
                · rw [if_neg hb14] at h1
                  refine CodT.no' (b := x12) (by kernel_rfl) (by simpa using hb14) ?_
                  refine CodT.skip ?_
                  have e := someS h1
                  subst e
                  exact Qn.thenJ fun a ha => ⟨0, 0, 0, rfl, ha.keep [0, 5, 6, 7] (by kernel_rfl), hI⟩
    ·
      rintro a w ⟨x3, x4, x5, rfl, ha, hI⟩
      try dsimp only at h0
      refine CodT.of ?_ ha
      refine CodT.seq ?_
      obtain ⟨r1, h1, h0⟩ := bindS h0
      refine CodT.meet (fun a w => ∃ (x15 : Bool), x15 = r1 ∧ Fr 85 [(0, .string a0), (5, .int .i64 x3), (6, .int .i64 x4), (7, .int .i64 x5), (47, .bool x15)] a ∧ Inv w0 Z w A) ?_ ?_
      ·
        refine CodT.regionL [0, 1, 2, 3, 4, 5, 6, 7] (by kernel_rfl) ?_
        refine OpsT.pures (r := [3, 4, 5, 6, 7]) [0, 1, 2] [0, 5, 6, 7, 42] (S' := [(0, .string a0), (5, .int .i64 x3), (6, .int .i64 x4), (7, .int .i64 x5), (42, .bool (x3 == 0))]) (by kernel_rfl) ?_
        by_cases hb16 : (x3 == 0) = true
        · rw [if_pos hb16] at h1
          refine OpsT.keep [0, 5, 6, 7, 42] (S' := [(0, .string a0), (5, .int .i64 x3), (6, .int .i64 x4), (7, .int .i64 x5), (42, .bool true)]) (by simp only [hb16]; kernel_rfl) ?_
          refine OpsT.pures (r := []) [3, 4, 5, 6, 7] [0, 5, 6, 7, 47] (S' := [(0, .string a0), (5, .int .i64 x3), (6, .int .i64 x4), (7, .int .i64 x5), (47, .bool true)]) (by kernel_rfl) ?_
          refine OpsT.done ?_
          have e := someS h1
          subst e
          exact Qn.thenJ fun a ha => ⟨true, rfl, ha.keep [0, 5, 6, 7, 47] (by kernel_rfl), hI⟩
        · rw [if_neg hb16] at h1
          have hb16 : (x3 == 0) = false := by simpa using hb16
          refine OpsT.keep [0, 5, 6, 7, 42] (S' := [(0, .string a0), (5, .int .i64 x3), (6, .int .i64 x4), (7, .int .i64 x5), (42, .bool false)]) (by simp only [hb16]; kernel_rfl) ?_
          refine OpsT.pures (r := []) [3, 4, 5, 6, 7] [0, 5, 6, 7, 47] (S' := [(0, .string a0), (5, .int .i64 x3), (6, .int .i64 x4), (7, .int .i64 x5), (47, .bool (decide ((a0.size : Int) < x3)))]) (by kernel_rfl) ?_
          refine OpsT.done ?_
          have e := someS h1
          subst e
          exact Qn.thenJ fun a ha => ⟨decide ((a0.size : Int) < x3), rfl, ha.keep [0, 5, 6, 7, 47] (by kernel_rfl), hI⟩
      ·
        rintro a w ⟨x15, rfl, ha, hI⟩
        try dsimp only at h0
        refine CodT.of ?_ ha
        by_cases hb17 : x15 = true
        · rw [if_pos hb17] at h0
          refine CodT.yes' (b := x15) (by kernel_rfl) hb17 ?_
          refine CodT.seq ?_
          refine CodT.regionL [0, 1] (by kernel_rfl) ?_
          refine OpsT.pures (r := []) [0, 1] [2, 3] (S' := [(2, .int .i64 (-1)), (3, .int .i64 1)]) (by kernel_rfl) ?_
          refine OpsT.done ?_
          refine Qn.then ?_
          refine CodT.ret ?_
          refine Qn.ret_then ?_
          have e := someS h0
          subst e
          refine Qn.keep [2, 3] (S' := [(2, .int .i64 (-1)), (3, .int .i64 1)]) (by kernel_rfl) ?_
          exact post_ret (v := .tuple #[.int .i64 (-1), .int .i64 1]) (fun a ha => RunRes.run (vs := [.int .i64 (-1), .int .i64 1]) (.tmp (t := 2) (by kernel_rfl) (.tmp (t := 3) (by kernel_rfl) .nil)) ha (by kernel_rfl)) ⟨rfl, hI⟩
        · rw [if_neg hb17] at h0
          refine CodT.no' (b := x15) (by kernel_rfl) (by simpa using hb17) ?_
          refine CodT.skip ?_
          refine Qn.then ?_
          refine CodT.seq ?_
          refine CodT.seq ?_
          refine CodT.regionL [0] (by kernel_rfl) ?_
          refine OpsT.pures (r := []) [0] [0, 5, 6, 7, 8] (S' := [(0, .string a0), (5, .int .i64 x3), (6, .int .i64 x4), (7, .int .i64 x5), (8, .int .i64 1)]) (by kernel_rfl) ?_
          refine OpsT.done ?_
          refine Qn.then ?_
          obtain ⟨r1, h1, h0⟩ := bindS h0
          refine CodT.meet1 (fun a w => ∃ (x18 : Int), .inr x18 = r1 ∧ Fr 85 [(5, .int .i64 x3), (6, .int .i64 x4), (7, .int .i64 x18)] a ∧ Inv w0 Z w A) ?_ ?_
          ·
            refine CodT.block ?_
            refine (fun a ha => wp_loopN (fun k a w => ∃ (x19 : Int) (x20 : Int), ref03_Rune.l0 x3 a0 k x19 x20 = some r1 ∧ Fr 85 [(0, .string a0), (5, .int .i64 x3), (6, .int .i64 x4), (7, .int .i64 x19), (8, .int .i64 x20)] a ∧ Inv w0 Z w A) ?_ FU a w ⟨x5, 1, h1, ha.keep [0, 5, 6, 7, 8] (by kernel_rfl), hI⟩)
            clear h1 hI
            rintro k a w ⟨x19, x20, h1, ha, hI⟩
            rcases k with _ | k
            · cases h1
            simp only [ref03_Rune.l0] at h1
            refine CodT.of ?_ ha
            refine CodT.seq ?_
            refine CodT.seq ?_
            refine CodT.regionL [0, 1, 2] (by kernel_rfl) ?_
            refine OpsT.pures (r := []) [0, 1, 2] [0, 5, 6, 7, 8, 50] (S' := [(0, .string a0), (5, .int .i64 x3), (6, .int .i64 x4), (7, .int .i64 x19), (8, .int .i64 x20), (50, .bool (decide (x20 < x3)))]) (by kernel_rfl) ?_
            refine OpsT.done ?_
            refine Qn.then ?_
            by_cases hb21 : (decide (x20 < x3)) = true
            · rw [if_pos hb21] at h1
              refine CodT.yes' (b := decide (x20 < x3)) (by kernel_rfl) hb21 ?_
              refine CodT.skip ?_
              refine Qn.then ?_
              refine CodT.seq ?_
              refine CodT.block ?_
              refine CodT.seq ?_
              refine CodT.regionL [0, 1, 2, 3, 4] (by kernel_rfl) ?_
              refine OpsT.pures (r := [2, 3, 4]) [0, 1] [0, 5, 6, 7, 8, 53, 54] (S' := [(0, .string a0), (5, .int .i64 x3), (6, .int .i64 x4), (7, .int .i64 x19), (8, .int .i64 x20), (53, .string a0), (54, .int .i64 x20)]) (by kernel_rfl) ?_
              obtain ⟨hg22, h1⟩ := guardS h1
              refine OpsT.cons (Does.yi (Yl.indexStr (d := 55) (T := 9) (k := .i64) (j := x20) (s := a0) (by kernel_rfl) Go.Proofs.Tryd.underlying9 hg22.1 hg22.2) hI ?_)
              refine OpsT.pures (r := []) [3, 4] [0, 5, 6, 7, 8, 9] (S' := [(0, .string a0), (5, .int .i64 x3), (6, .int .i64 x4), (7, .int .i64 x19), (8, .int .i64 x20), (9, .int .i64 (wi64 (bt a0 x20)))]) (by kernel_rfl) ?_
              refine OpsT.done ?_
              refine Qn.then ?_
              refine CodT.seq ?_
              obtain ⟨r2, h2, h1⟩ := bindS h1
              refine CodT.meet (fun a w => ∃ (x23 : Bool), x23 = r2 ∧ Fr 85 [(0, .string a0), (5, .int .i64 x3), (6, .int .i64 x4), (7, .int .i64 x19), (8, .int .i64 x20), (9, .int .i64 (wi64 (bt a0 x20))), (62, .bool x23)] a ∧ Inv w0 Z w A) ?_ ?_
              ·
                refine CodT.regionL [0, 1, 2, 3, 4, 5] (by kernel_rfl) ?_
                refine OpsT.pures (r := [3, 4, 5]) [0, 1, 2] [0, 5, 6, 7, 8, 9, 59] (S' := [(0, .string a0), (5, .int .i64 x3), (6, .int .i64 x4), (7, .int .i64 x19), (8, .int .i64 x20), (9, .int .i64 (wi64 (bt a0 x20))), (59, .bool (decide ((wi64 (bt a0 x20)) < 128)))]) (by kernel_rfl) ?_
                by_cases hb24 : (decide ((wi64 (bt a0 x20)) < 128)) = true
                · rw [if_pos hb24] at h2
                  refine OpsT.keep [0, 5, 6, 7, 8, 9, 59] (S' := [(0, .string a0), (5, .int .i64 x3), (6, .int .i64 x4), (7, .int .i64 x19), (8, .int .i64 x20), (9, .int .i64 (wi64 (bt a0 x20))), (59, .bool true)]) (by simp only [hb24]; kernel_rfl) ?_
                  refine OpsT.pures (r := []) [3, 4, 5] [0, 5, 6, 7, 8, 9, 62] (S' := [(0, .string a0), (5, .int .i64 x3), (6, .int .i64 x4), (7, .int .i64 x19), (8, .int .i64 x20), (9, .int .i64 (wi64 (bt a0 x20))), (62, .bool true)]) (by kernel_rfl) ?_
                  refine OpsT.done ?_
                  have e := someS h2
                  subst e
                  exact Qn.thenJ fun a ha => ⟨true, rfl, ha.keep [0, 5, 6, 7, 8, 9, 62] (by kernel_rfl), hI⟩
                · rw [if_neg hb24] at h2
                  have hb24 : (decide ((wi64 (bt a0 x20)) < 128)) = false := by simpa using hb24
                  refine OpsT.keep [0, 5, 6, 7, 8, 9, 59] (S' := [(0, .string a0), (5, .int .i64 x3), (6, .int .i64 x4), (7, .int .i64 x19), (8, .int .i64 x20), (9, .int .i64 (wi64 (bt a0 x20))), (59, .bool false)]) (by simp only [hb24]; kernel_rfl) ?_
                  refine OpsT.pures (r := []) [3, 4, 5] [0, 5, 6, 7, 8, 9, 62] (S' := [(0, .string a0), (5, .int .i64 x3), (6, .int .i64 x4), (7, .int .i64 x19), (8, .int .i64 x20), (9, .int .i64 (wi64 (bt a0 x20))), (62, .bool (decide ((wi64 (bt a0 x20)) > 191)))]) (by kernel_rfl) ?_
                  refine OpsT.done ?_
                  have e := someS h2
                  subst e
                  exact Qn.thenJ fun a ha => ⟨decide ((wi64 (bt a0 x20)) > 191), rfl, ha.keep [0, 5, 6, 7, 8, 9, 62] (by kernel_rfl), hI⟩
              ·
                rintro a w ⟨x23, rfl, ha, hI⟩
                try dsimp only at h1
                refine CodT.of ?_ ha
                by_cases hb25 : x23 = true
                · rw [if_pos hb25] at h1
                  refine CodT.yes' (b := x23) (by kernel_rfl) hb25 ?_
                  refine CodT.seq ?_
                  refine CodT.regionL [0, 1] (by kernel_rfl) ?_
                  refine OpsT.pures (r := []) [0, 1] [2, 3] (S' := [(2, .int .i64 (-1)), (3, .int .i64 1)]) (by kernel_rfl) ?_
                  refine OpsT.done ?_
                  refine Qn.then ?_
                  refine CodT.ret ?_
                  refine Qn.ret_then ?_
                  refine Qn.block_ret ?_
                  refine Qn.ret_then ?_
                  refine Qn.ret_then ?_
                  refine Qn.block_ret ?_
                  refine Qn.ret_then ?_
                  refine Qn.ret_then ?_
                  have e := someS h1
                  subst e
                  try dsimp only at h0
                  have e := someS h0
                  subst e
                  refine Qn.keep [2, 3] (S' := [(2, .int .i64 (-1)), (3, .int .i64 1)]) (by kernel_rfl) ?_
                  exact post_ret (v := .tuple #[.int .i64 (-1), .int .i64 1]) (fun a ha => RunRes.run (vs := [.int .i64 (-1), .int .i64 1]) (.tmp (t := 2) (by kernel_rfl) (.tmp (t := 3) (by kernel_rfl) .nil)) ha (by kernel_rfl)) ⟨rfl, hI⟩
                · rw [if_neg hb25] at h1
                  refine CodT.no' (b := x23) (by kernel_rfl) (by simpa using hb25) ?_
                  refine CodT.skip ?_
                  refine Qn.then ?_
                  refine CodT.regionL [0, 1, 2, 3, 4, 5] (by kernel_rfl) ?_
                  refine OpsT.pures (r := []) [0, 1, 2, 3, 4, 5] [0, 5, 6, 7, 8] (S' := [(0, .string a0), (5, .int .i64 x3), (6, .int .i64 x4), (7, .int .i64 (wi64 ((wi64 ((wi64 (x19 * 64)) + (wi64 (bt a0 x20)))) - 128))), (8, .int .i64 x20)]) (by kernel_rfl) ?_
                  refine OpsT.done ?_
                  refine Qn.block_normal ?_
                  refine Qn.then ?_
                  refine CodT.regionL [0, 1, 2] (by kernel_rfl) ?_
                  refine OpsT.pures (r := []) [0, 1, 2] [0, 5, 6, 7, 8] (S' := [(0, .string a0), (5, .int .i64 x3), (6, .int .i64 x4), (7, .int .i64 (wi64 ((wi64 ((wi64 (x19 * 64)) + (wi64 (bt a0 x20)))) - 128))), (8, .int .i64 (wi64 (x20 + 1)))]) (by kernel_rfl) ?_
                  refine OpsT.done ?_
                  exact Qn.thenJ fun a ha => ⟨k, Nat.lt_succ_self k, wi64 ((wi64 ((wi64 (x19 * 64)) + (wi64 (bt a0 x20)))) - 128), wi64 (x20 + 1), h1, ha.keep [0, 5, 6, 7, 8] (by kernel_rfl), hI⟩
            · rw [if_neg hb21] at h1
              refine CodT.no' (b := decide (x20 < x3)) (by kernel_rfl) (by simpa using hb21) ?_
              refine CodT.exit ?_
              refine Qn.exit_then ?_
              refine Qn.exit_then ?_
              refine Qn.block ?_
              have e := someS h1
              subst e
              exact Qn.thenJ fun a ha => ⟨x19, rfl, ha.keep [5, 6, 7] (by kernel_rfl), hI⟩
          ·
            rintro a w ⟨x18, rfl, ha, hI⟩
            try dsimp only at h0
            refine Qn.of ?_ ha
            refine Qn.then ?_
            refine CodT.seq ?_
            obtain ⟨r1, h1, h0⟩ := bindS h0
            refine CodT.meet (fun a w => ∃ (x26 : Bool), x26 = r1 ∧ Fr 85 [(5, .int .i64 x3), (7, .int .i64 x18), (82, .bool x26)] a ∧ Inv w0 Z w A) ?_ ?_
            ·
              refine CodT.regionL [0, 1, 2, 3, 4, 5, 6, 7, 8, 9, 10, 11, 12, 13, 14] (by kernel_rfl) ?_
              refine OpsT.pures (r := [4, 5, 6, 7, 8, 9, 10, 11, 12, 13, 14]) [0, 1, 2, 3] [5, 7, 71] (S' := [(5, .int .i64 x3), (7, .int .i64 x18), (71, .bool (decide (x18 < x4)))]) (by kernel_rfl) ?_
              by_cases hb27 : (decide (x18 < x4)) = true
              · rw [if_pos hb27] at h1
                refine OpsT.keep [5, 7, 71] (S' := [(5, .int .i64 x3), (7, .int .i64 x18), (71, .bool true)]) (by simp only [hb27]; kernel_rfl) ?_
                refine OpsT.pures (r := []) [4, 5, 6, 7, 8, 9, 10, 11, 12, 13, 14] [5, 7, 82] (S' := [(5, .int .i64 x3), (7, .int .i64 x18), (82, .bool true)]) (by kernel_rfl) ?_
                refine OpsT.done ?_
                have e := someS h1
                subst e
                exact Qn.thenJ fun a ha => ⟨true, rfl, ha.keep [5, 7, 82] (by kernel_rfl), hI⟩
              · rw [if_neg hb27] at h1
                have hb27 : (decide (x18 < x4)) = false := by simpa using hb27
                refine OpsT.keep [5, 7, 71] (S' := [(5, .int .i64 x3), (7, .int .i64 x18), (71, .bool false)]) (by simp only [hb27]; kernel_rfl) ?_
                refine OpsT.pures (r := [8, 9, 10, 11, 12, 13, 14]) [4, 5, 6, 7] [5, 7, 75] (S' := [(5, .int .i64 x3), (7, .int .i64 x18), (75, .bool (decide (x18 > 1114111)))]) (by kernel_rfl) ?_
                by_cases hb28 : (decide (x18 > 1114111)) = true
                · rw [if_pos hb28] at h1
                  refine OpsT.keep [5, 7, 75] (S' := [(5, .int .i64 x3), (7, .int .i64 x18), (75, .bool true)]) (by simp only [hb28]; kernel_rfl) ?_
                  refine OpsT.pures (r := []) [8, 9, 10, 11, 12, 13, 14] [5, 7, 82] (S' := [(5, .int .i64 x3), (7, .int .i64 x18), (82, .bool true)]) (by kernel_rfl) ?_
                  refine OpsT.done ?_
                  have e := someS h1
                  subst e
                  exact Qn.thenJ fun a ha => ⟨true, rfl, ha.keep [5, 7, 82] (by kernel_rfl), hI⟩
                · rw [if_neg hb28] at h1
                  have hb28 : (decide (x18 > 1114111)) = false := by simpa using hb28
                  refine OpsT.keep [5, 7, 75] (S' := [(5, .int .i64 x3), (7, .int .i64 x18), (75, .bool false)]) (by simp only [hb28]; kernel_rfl) ?_
                  refine OpsT.pures (r := [11, 12, 13, 14]) [8, 9, 10] [5, 7, 75, 78] (S' := [(5, .int .i64 x3), (7, .int .i64 x18), (75, .bool false), (78, .bool (decide (x18 ≥ 55296)))]) (by kernel_rfl) ?_
                  by_cases hb29 : (decide (x18 ≥ 55296)) = true
                  · rw [if_pos hb29] at h1
                    refine OpsT.keep [5, 7, 75, 78] (S' := [(5, .int .i64 x3), (7, .int .i64 x18), (75, .bool false), (78, .bool true)]) (by simp only [hb29]; kernel_rfl) ?_
                    refine OpsT.pures (r := []) [11, 12, 13, 14] [5, 7, 82] (S' := [(5, .int .i64 x3), (7, .int .i64 x18), (82, .bool (decide (x18 ≤ 57343)))]) (by kernel_rfl) ?_
                    refine OpsT.done ?_
                    have e := someS h1
                    subst e
                    exact Qn.thenJ fun a ha => ⟨decide (x18 ≤ 57343), rfl, ha.keep [5, 7, 82] (by kernel_rfl), hI⟩
                  · rw [if_neg hb29] at h1
                    have hb29 : (decide (x18 ≥ 55296)) = false := by simpa using hb29
                    refine OpsT.keep [5, 7, 75, 78] (S' := [(5, .int .i64 x3), (7, .int .i64 x18), (75, .bool false), (78, .bool false)]) (by simp only [hb29]; kernel_rfl) ?_
                    refine OpsT.pures (r := []) [11, 12, 13, 14] [5, 7, 82] (S' := [(5, .int .i64 x3), (7, .int .i64 x18), (82, .bool false)]) (by kernel_rfl) ?_
                    refine OpsT.done ?_
                    have e := someS h1
                    subst e
                    exact Qn.thenJ fun a ha => ⟨false, rfl, ha.keep [5, 7, 82] (by kernel_rfl), hI⟩
            ·
              rintro a w ⟨x26, rfl, ha, hI⟩
              try dsimp only at h0
              refine CodT.of ?_ ha
              by_cases hb30 : x26 = true
              · rw [if_pos hb30] at h0
                refine CodT.yes' (b := x26) (by kernel_rfl) hb30 ?_
                refine CodT.seq ?_
                refine CodT.regionL [0, 1] (by kernel_rfl) ?_
                refine OpsT.pures (r := []) [0, 1] [2, 3] (S' := [(2, .int .i64 (-1)), (3, .int .i64 1)]) (by kernel_rfl) ?_
                refine OpsT.done ?_
                refine Qn.then ?_
                refine CodT.ret ?_
                refine Qn.ret_then ?_
                have e := someS h0
                subst e
                refine Qn.keep [2, 3] (S' := [(2, .int .i64 (-1)), (3, .int .i64 1)]) (by kernel_rfl) ?_
                exact post_ret (v := .tuple #[.int .i64 (-1), .int .i64 1]) (fun a ha => RunRes.run (vs := [.int .i64 (-1), .int .i64 1]) (.tmp (t := 2) (by kernel_rfl) (.tmp (t := 3) (by kernel_rfl) .nil)) ha (by kernel_rfl)) ⟨rfl, hI⟩
              · rw [if_neg hb30] at h0
                refine CodT.no' (b := x26) (by kernel_rfl) (by simpa using hb30) ?_
                refine CodT.skip ?_
                refine Qn.then ?_
                refine CodT.seq ?_
                refine CodT.regionL [0, 1, 2, 3] (by kernel_rfl) ?_
                refine OpsT.pures (r := []) [0, 1, 2, 3] [2, 3] (S' := [(2, .int .i64 x18), (3, .int .i64 x3)]) (by kernel_rfl) ?_
                refine OpsT.done ?_
                refine Qn.then ?_
                refine CodT.ret ?_
                have e := someS h0
                subst e
                refine Qn.keep [2, 3] (S' := [(2, .int .i64 x18), (3, .int .i64 x3)]) (by kernel_rfl) ?_
                exact post_ret (v := .tuple #[.int .i64 x18, .int .i64 x3]) (fun a ha => RunRes.run (vs := [.int .i64 x18, .int .i64 x3]) (.tmp (t := 2) (by kernel_rfl) (.tmp (t := 3) (by kernel_rfl) .nil)) ha (by kernel_rfl)) ⟨rfl, hI⟩
set_option maxRecDepth 100000 in
set_option maxHeartbeats 4000000 in
/-- cenotaph/cenotaphref03.Quote -/
theorem c13 (w0 w : World) (Z : Hp) (A : HP) (hI : Inv w0 Z w A) (hT : Tabs Z) (a0 : ByteArray) (r : ByteArray) (h0 : ref03_Quote a0 = some r) :
    Calls prog 13 #[.string a0] w (fun e w' => e = .returned (.string r) ∧ Inv w0 Z w' A) := by
  have e4 := calls_intro (R := (fun e w' => e = .returned (.string r) ∧ Inv w0 Z w' A)) (w := w) (args := [.string a0]) (fn := Go.Proofs.Tryd.f13) 91 Go.Proofs.Tryd.func13 (by rfl) Go.Proofs.Tryd.ntmps13 (by kernel_rfl)
  refine e4 ?_
  clear e4
  unfold ref03_Quote at h0
  refine CodT.seq ?_
  refine CodT.regionL [0] (by kernel_rfl) ?_
  refine OpsT.pures (r := []) [0] [0] (S' := [(0, .string a0)]) (by kernel_rfl) ?_
  refine OpsT.done ?_
  refine Qn.then ?_
  refine CodT.seq ?_
  refine CodT.regionL [0] (by kernel_rfl) ?_
  refine OpsT.pures (r := []) [0] [0, 3] (S' := [(0, .string a0), (3, .string (⟨#[48, 49, 50, 51, 52, 53, 54, 55, 56, 57, 97, 98, 99, 100, 101, 102]⟩ : ByteArray))]) (by kernel_rfl) ?_
  refine OpsT.done ?_
  refine Qn.then ?_
  refine CodT.seq ?_
  refine CodT.regionL [0, 1, 2] (by kernel_rfl) ?_
  refine OpsT.cons (Does.buildSlice (en := (cI .u8)) (d := 10) (n := 1) (T := 31) (ps := [(0, .int .u8 92)]) ([92] : List Int) (by kernel_rfl) Go.Proofs.Tryd.underlying31 ty5 (by kernel_rfl) (by kernel_rfl) (by kernel_rfl) (by kernel_rfl) (len_all (fun _ => rfl)) hI ?_)
  intro b1 w hI
  refine OpsT.cons (Does.b2sOwn (d := 11) (src := 31) (dst := 9) (xs := ([92] : List Int)) (by kernel_rfl) Go.Proofs.Tryd.underlying31 Go.Proofs.Tryd.underlying5 Go.Proofs.Tryd.underlying9 hI ?_)
  refine OpsT.pures (r := []) [2] [0, 3, 4] (S' := [(0, .string a0), (3, .string (⟨#[48, 49, 50, 51, 52, 53, 54, 55, 56, 57, 97, 98, 99, 100, 101, 102]⟩ : ByteArray)), (4, .string (strOfNums ([92] : List Int)))]) (by kernel_rfl) ?_
  refine OpsT.done ?_
  refine Qn.then ?_
  refine CodT.seq ?_
  refine CodT.regionL [0, 1, 2] (by kernel_rfl) ?_
  refine OpsT.cons (Does.buildSlice (en := (cI .u8)) (d := 12) (n := 1) (T := 31) (ps := [(0, .int .u8 34)]) ([34] : List Int) (by kernel_rfl) Go.Proofs.Tryd.underlying31 ty5 (by kernel_rfl) (by kernel_rfl) (by kernel_rfl) (by kernel_rfl) (len_all (fun _ => rfl)) hI ?_)
  intro b2 w hI
  refine OpsT.cons (Does.b2sOwn (d := 13) (src := 31) (dst := 9) (xs := ([34] : List Int)) (by kernel_rfl) Go.Proofs.Tryd.underlying31 Go.Proofs.Tryd.underlying5 Go.Proofs.Tryd.underlying9 hI ?_)
  refine OpsT.pures (r := []) [2] [0, 3, 4, 5] (S' := [(0, .string a0), (3, .string (⟨#[48, 49, 50, 51, 52, 53, 54, 55, 56, 57, 97, 98, 99, 100, 101, 102]⟩ : ByteArray)), (4, .string (strOfNums ([92] : List Int))), (5, .string (strOfNums ([34] : List Int)))]) (by kernel_rfl) ?_
  refine OpsT.done ?_
  refine Qn.then ?_
  refine CodT.seq ?_
  refine CodT.seq ?_
  refine CodT.regionL [0] (by kernel_rfl) ?_
  refine OpsT.pures (r := []) [0] [0, 3, 4, 5, 6] (S' := [(0, .string a0), (3, .string (⟨#[48, 49, 50, 51, 52, 53, 54, 55, 56, 57, 97, 98, 99, 100, 101, 102]⟩ : ByteArray)), (4, .string (strOfNums ([92] : List Int))), (5, .string (strOfNums ([34] : List Int))), (6, .int .i64 0)]) (by kernel_rfl) ?_
  refine OpsT.done ?_
  refine Qn.then ?_
  obtain ⟨r1, h1, h0⟩ := bindS h0
  refine CodT.meet1 (fun a w => ∃ (x3 : ByteArray), x3 = r1 ∧ Fr 91 [(5, .string x3)] a ∧ Inv w0 Z w A) ?_ ?_
  ·
    refine CodT.block ?_
    have hI := hI.drop
    have hI := hI.drop
    refine (fun a ha => wp_loopN (fun k a w => ∃ (x4 : ByteArray) (x5 : Int), ref03_Quote.l0 a0 k x4 x5 = some r1 ∧ Fr 91 [(0, .string a0), (3, .string (⟨#[48, 49, 50, 51, 52, 53, 54, 55, 56, 57, 97, 98, 99, 100, 101, 102]⟩ : ByteArray)), (4, .string (strOfNums ([92] : List Int))), (5, .string x4), (6, .int .i64 x5)] a ∧ Inv w0 Z w A) ?_ FU a w ⟨strOfNums ([34] : List Int), 0, h1, ha.keep [0, 3, 4, 5, 6] (by kernel_rfl), hI⟩)
    clear h1 hI
    rintro k a w ⟨x4, x5, h1, ha, hI⟩
    rcases k with _ | k
    · cases h1
    simp only [ref03_Quote.l0] at h1
    refine CodT.of ?_ ha
    refine CodT.seq ?_
    refine CodT.seq ?_
    refine CodT.regionL [0, 1, 2, 3] (by kernel_rfl) ?_
    refine OpsT.pures (r := []) [0, 1, 2, 3] [0, 3, 4, 5, 6, 17] (S' := [(0, .string a0), (3, .string (⟨#[48, 49, 50, 51, 52, 53, 54, 55, 56, 57, 97, 98, 99, 100, 101, 102]⟩ : ByteArray)), (4, .string (strOfNums ([92] : List Int))), (5, .string x4), (6, .int .i64 x5), (17, .bool (decide (x5 < (a0.size : Int))))]) (by kernel_rfl) ?_
    refine OpsT.done ?_
    refine Qn.then ?_
    by_cases hb6 : (decide (x5 < (a0.size : Int))) = true
    · rw [if_pos hb6] at h1
      refine CodT.yes' (b := decide (x5 < (a0.size : Int))) (by kernel_rfl) hb6 ?_
      refine CodT.skip ?_
      refine Qn.then ?_
      refine CodT.block ?_
      refine CodT.seq ?_
      refine CodT.regionL [0, 1, 2, 3, 4, 5, 6, 7, 8] (by kernel_rfl) ?_
      refine OpsT.pures (r := [2, 3, 4, 5, 6, 7, 8]) [0, 1] [0, 3, 4, 5, 6, 19, 20] (S' := [(0, .string a0), (3, .string (⟨#[48, 49, 50, 51, 52, 53, 54, 55, 56, 57, 97, 98, 99, 100, 101, 102]⟩ : ByteArray)), (4, .string (strOfNums ([92] : List Int))), (5, .string x4), (6, .int .i64 x5), (19, .string a0), (20, .int .i64 x5)]) (by kernel_rfl) ?_
      obtain ⟨hg7, h1⟩ := guardS h1
      refine OpsT.cons (Does.yi (Yl.sliceStr10 (d := 21) (T := 9) (s := a0) (lo := x5) (by kernel_rfl) Go.Proofs.Tryd.underlying9 hg7) hI ?_)
      obtain ⟨⟨y9, y10⟩, hc8, h1⟩ := bindS h1
      try dsimp only at h1
      refine OpsT.cons (Does.call (d := some 22) (n := 21) (vs := [.string (sx a0 x5 (a0.size : Int))]) (by kernel_rfl) en21 (c21 w0 w _ _ hI hT (sx a0 x5 (a0.size : Int)) _ hc8) ?_)
      rintro e w ⟨rfl, hI⟩
      refine ⟨_, rfl, ?_⟩
      refine OpsT.pures (r := []) [4, 5, 6, 7, 8] [0, 3, 4, 5, 6, 7, 8] (S' := [(0, .string a0), (3, .string (⟨#[48, 49, 50, 51, 52, 53, 54, 55, 56, 57, 97, 98, 99, 100, 101, 102]⟩ : ByteArray)), (4, .string (strOfNums ([92] : List Int))), (5, .string x4), (6, .int .i64 x5), (7, .int .i64 y9), (8, .int .i64 y10)]) (by kernel_rfl) ?_
      refine OpsT.done ?_
      refine Qn.then ?_
      refine CodT.seq ?_
      refine CodT.regionL [0, 1, 2, 3, 4] (by kernel_rfl) ?_
      refine OpsT.pures (r := [2, 3, 4]) [0, 1] [0, 3, 4, 5, 6, 7, 8, 25, 26] (S' := [(0, .string a0), (3, .string (⟨#[48, 49, 50, 51, 52, 53, 54, 55, 56, 57, 97, 98, 99, 100, 101, 102]⟩ : ByteArray)), (4, .string (strOfNums ([92] : List Int))), (5, .string x4), (6, .int .i64 x5), (7, .int .i64 y9), (8, .int .i64 y10), (25, .string a0), (26, .int .i64 x5)]) (by kernel_rfl) ?_
      obtain ⟨hg11, h1⟩ := guardS h1
      refine OpsT.cons (Does.yi (Yl.indexStr (d := 27) (T := 9) (k := .i64) (j := x5) (s := a0) (by kernel_rfl) Go.Proofs.Tryd.underlying9 hg11.1 hg11.2) hI ?_)
      refine OpsT.pures (r := []) [3, 4] [0, 3, 4, 5, 6, 7, 8, 9] (S' := [(0, .string a0), (3, .string (⟨#[48, 49, 50, 51, 52, 53, 54, 55, 56, 57, 97, 98, 99, 100, 101, 102]⟩ : ByteArray)), (4, .string (strOfNums ([92] : List Int))), (5, .string x4), (6, .int .i64 x5), (7, .int .i64 y9), (8, .int .i64 y10), (9, .int .i64 (wi64 (bt a0 x5)))]) (by kernel_rfl) ?_
      refine OpsT.done ?_
      refine Qn.then ?_
      obtain ⟨r2, h2, h1⟩ := bindS h1
      refine CodT.meet (fun a w => ∃ (x12 : ByteArray), x12 = r2 ∧ Fr 91 [(0, .string a0), (3, .string (⟨#[48, 49, 50, 51, 52, 53, 54, 55, 56, 57, 97, 98, 99, 100, 101, 102]⟩ : ByteArray)), (4, .string (strOfNums ([92] : List Int))), (5, .string x12), (6, .int .i64 x5), (8, .int .i64 y10)] a ∧ Inv w0 Z w A) ?_ ?_
      ·
        obtain ⟨r3, h3, h2⟩ := bindS h2
        refine CodT.meet (fun a w => ∃ (x13 : Bool), x13 = r3 ∧ Fr 91 [(0, .string a0), (3, .string (⟨#[48, 49, 50, 51, 52, 53, 54, 55, 56, 57, 97, 98, 99, 100, 101, 102]⟩ : ByteArray)), (4, .string (strOfNums ([92] : List Int))), (5, .string x4), (6, .int .i64 x5), (7, .int .i64 y9), (8, .int .i64 y10), (9, .int .i64 (wi64 (bt a0 x5))), (34, .bool x13)] a ∧ Inv w0 Z w A) ?_ ?_
        ·
          refine CodT.regionL [0, 1, 2, 3, 4, 5] (by kernel_rfl) ?_
          refine OpsT.pures (r := [3, 4, 5]) [0, 1, 2] [0, 3, 4, 5, 6, 7, 8, 9, 31] (S' := [(0, .string a0), (3, .string (⟨#[48, 49, 50, 51, 52, 53, 54, 55, 56, 57, 97, 98, 99, 100, 101, 102]⟩ : ByteArray)), (4, .string (strOfNums ([92] : List Int))), (5, .string x4), (6, .int .i64 x5), (7, .int .i64 y9), (8, .int .i64 y10), (9, .int .i64 (wi64 (bt a0 x5))), (31, .bool (y9 == 34))]) (by kernel_rfl) ?_
          by_cases hb14 : (y9 == 34) = true
          · rw [if_pos hb14] at h3
            refine OpsT.keep [0, 3, 4, 5, 6, 7, 8, 9, 31] (S' := [(0, .string a0), (3, .string (⟨#[48, 49, 50, 51, 52, 53, 54, 55, 56, 57, 97, 98, 99, 100, 101, 102]⟩ : ByteArray)), (4, .string (strOfNums ([92] : List Int))), (5, .string x4), (6, .int .i64 x5), (7, .int .i64 y9), (8, .int .i64 y10), (9, .int .i64 (wi64 (bt a0 x5))), (31, .bool true)]) (by simp only [hb14]; kernel_rfl) ?_
            refine OpsT.pures (r := []) [3, 4, 5] [0, 3, 4, 5, 6, 7, 8, 9, 34] (S' := [(0, .string a0), (3, .string (⟨#[48, 49, 50, 51, 52, 53, 54, 55, 56, 57, 97, 98, 99, 100, 101, 102]⟩ : ByteArray)), (4, .string (strOfNums ([92] : List Int))), (5, .string x4), (6, .int .i64 x5), (7, .int .i64 y9), (8, .int .i64 y10), (9, .int .i64 (wi64 (bt a0 x5))), (34, .bool true)]) (by kernel_rfl) ?_
            refine OpsT.done ?_
            have e := someS h3
            subst e
            exact Qn.thenJ fun a ha => ⟨true, rfl, ha.keep [0, 3, 4, 5, 6, 7, 8, 9, 34] (by kernel_rfl), hI⟩
          · rw [if_neg hb14] at h3
            have hb14 : (y9 == 34) = false := by simpa using hb14
            refine OpsT.keep [0, 3, 4, 5, 6, 7, 8, 9, 31] (S' := [(0, .string a0), (3, .string (⟨#[48, 49, 50, 51, 52, 53, 54, 55, 56, 57, 97, 98, 99, 100, 101, 102]⟩ : ByteArray)), (4, .string (strOfNums ([92] : List Int))), (5, .string x4), (6, .int .i64 x5), (7, .int .i64 y9), (8, .int .i64 y10), (9, .int .i64 (wi64 (bt a0 x5))), (31, .bool false)]) (by simp only [hb14]; kernel_rfl) ?_
            refine OpsT.pures (r := []) [3, 4, 5] [0, 3, 4, 5, 6, 7, 8, 9, 34] (S' := [(0, .string a0), (3, .string (⟨#[48, 49, 50, 51, 52, 53, 54, 55, 56, 57, 97, 98, 99, 100, 101, 102]⟩ : ByteArray)), (4, .string (strOfNums ([92] : List Int))), (5, .string x4), (6, .int .i64 x5), (7, .int .i64 y9), (8, .int .i64 y10), (9, .int .i64 (wi64 (bt a0 x5))), (34, .bool (y9 == 92))]) (by kernel_rfl) ?_
            refine OpsT.done ?_
            have e := someS h3
            subst e
            exact Qn.thenJ fun a ha => ⟨y9 == 92, rfl, ha.keep [0, 3, 4, 5, 6, 7, 8, 9, 34] (by kernel_rfl), hI⟩
        ·
          rintro a w ⟨x13, rfl, ha, hI⟩
          try dsimp only at h2
          refine CodT.of ?_ ha
          by_cases hb15 : x13 = true
          · rw [if_pos hb15] at h2
            refine CodT.yes' (b := x13) (by kernel_rfl) hb15 ?_
            refine CodT.regionL [0, 1, 2, 3, 4, 5, 6, 7, 8, 9] (by kernel_rfl) ?_
            refine OpsT.pures (r := [2, 3, 4, 5, 6, 7, 8, 9]) [0, 1] [0, 3, 4, 6, 8, 35, 36] (S' := [(0, .string a0), (3, .string (⟨#[48, 49, 50, 51, 52, 53, 54, 55, 56, 57, 97, 98, 99, 100, 101, 102]⟩ : ByteArray)), (4, .string (strOfNums ([92] : List Int))), (6, .int .i64 x5), (8, .int .i64 y10), (35, .string x4), (36, .string (strOfNums ([92] : List Int)))]) (by kernel_rfl) ?_
            obtain ⟨hg16, h2⟩ := guardS h2
            refine OpsT.cons (Does.yi (Yl.cat (d := 37) (T := 9) (x := x4) (y := strOfNums ([92] : List Int)) (by kernel_rfl) hg16) hI ?_)
            refine OpsT.pures (r := [7, 8, 9]) [3, 4, 5, 6] [0, 3, 4, 6, 8, 37, 38, 39, 41] (S' := [(0, .string a0), (3, .string (⟨#[48, 49, 50, 51, 52, 53, 54, 55, 56, 57, 97, 98, 99, 100, 101, 102]⟩ : ByteArray)), (4, .string (strOfNums ([92] : List Int))), (6, .int .i64 x5), (8, .int .i64 y10), (37, .string (x4 ++ (strOfNums ([92] : List Int)))), (38, .string a0), (39, .int .i64 x5), (41, .int .i64 (wi64 (x5 + 1)))]) (by kernel_rfl) ?_
            obtain ⟨hg17, h2⟩ := guardS h2
            refine OpsT.cons (Does.yi (Yl.sliceStr11 (d := 42) (T := 9) (s := a0) (lo := x5) (hi := wi64 (x5 + 1)) (by kernel_rfl) Go.Proofs.Tryd.underlying9 hg17) hI ?_)
            obtain ⟨hg18, h2⟩ := guardS h2
            refine OpsT.cons (Does.yi (Yl.cat (d := 43) (T := 9) (x := x4 ++ (strOfNums ([92] : List Int))) (y := sx a0 x5 (wi64 (x5 + 1))) (by kernel_rfl) hg18) hI ?_)
            refine OpsT.pures (r := []) [9] [0, 3, 4, 5, 6, 8] (S' := [(0, .string a0), (3, .string (⟨#[48, 49, 50, 51, 52, 53, 54, 55, 56, 57, 97, 98, 99, 100, 101, 102]⟩ : ByteArray)), (4, .string (strOfNums ([92] : List Int))), (5, .string ((x4 ++ (strOfNums ([92] : List Int))) ++ (sx a0 x5 (wi64 (x5 + 1))))), (6, .int .i64 x5), (8, .int .i64 y10)]) (by kernel_rfl) ?_
            refine OpsT.done ?_
            have e := someS h2
            subst e
            exact Qn.thenJ fun a ha => ⟨(x4 ++ (strOfNums ([92] : List Int))) ++ (sx a0 x5 (wi64 (x5 + 1))), rfl, ha.keep [0, 3, 4, 5, 6, 8] (by kernel_rfl), hI⟩
          · rw [if_neg hb15] at h2
            refine CodT.no' (b := x13) (by kernel_rfl) (by simpa using hb15) ?_
            refine CodT.seq ?_
            refine CodT.regionL [0, 1] (by kernel_rfl) ?_
            refine OpsT.pures (r := []) [0, 1] [0, 3, 4, 5, 6, 7, 8, 9, 45] (S' := [(0, .string a0), (3, .string (⟨#[48, 49, 50, 51, 52, 53, 54, 55, 56, 57, 97, 98, 99, 100, 101, 102]⟩ : ByteArray)), (4, .string (strOfNums ([92] : List Int))), (5, .string x4), (6, .int .i64 x5), (7, .int .i64 y9), (8, .int .i64 y10), (9, .int .i64 (wi64 (bt a0 x5))), (45, .bool (y9 == 10))]) (by kernel_rfl) ?_
            refine OpsT.done ?_
            refine Qn.then ?_
            by_cases hb19 : (y9 == 10) = true
            · rw [if_pos hb19] at h2
              refine CodT.yes' (b := y9 == 10) (by kernel_rfl) hb19 ?_
              refine CodT.regionL [0, 1, 2, 3, 4] (by kernel_rfl) ?_
              refine OpsT.pures (r := [2, 3, 4]) [0, 1] [0, 3, 4, 6, 8, 46, 47] (S' := [(0, .string a0), (3, .string (⟨#[48, 49, 50, 51, 52, 53, 54, 55, 56, 57, 97, 98, 99, 100, 101, 102]⟩ : ByteArray)), (4, .string (strOfNums ([92] : List Int))), (6, .int .i64 x5), (8, .int .i64 y10), (46, .string x4), (47, .string (strOfNums ([92] : List Int)))]) (by kernel_rfl) ?_
              obtain ⟨hg20, h2⟩ := guardS h2
              refine OpsT.cons (Does.yi (Yl.cat (d := 48) (T := 9) (x := x4) (y := strOfNums ([92] : List Int)) (by kernel_rfl) hg20) hI ?_)
              obtain ⟨hg21, h2⟩ := guardS h2
              refine OpsT.cons (Does.yi (Yl.cat (d := 49) (T := 9) (x := x4 ++ (strOfNums ([92] : List Int))) (y := (⟨#[110]⟩ : ByteArray)) (by kernel_rfl) hg21) hI ?_)
              refine OpsT.pures (r := []) [4] [0, 3, 4, 5, 6, 8] (S' := [(0, .string a0), (3, .string (⟨#[48, 49, 50, 51, 52, 53, 54, 55, 56, 57, 97, 98, 99, 100, 101, 102]⟩ : ByteArray)), (4, .string (strOfNums ([92] : List Int))), (5, .string ((x4 ++ (strOfNums ([92] : List Int))) ++ (⟨#[110]⟩ : ByteArray))), (6, .int .i64 x5), (8, .int .i64 y10)]) (by kernel_rfl) ?_
              refine OpsT.done ?_
              have e := someS h2
              subst e
              exact Qn.thenJ fun a ha => ⟨(x4 ++ (strOfNums ([92] : List Int))) ++ (⟨#[110]⟩ : ByteArray), rfl, ha.keep [0, 3, 4, 5, 6, 8] (by kernel_rfl), hI⟩
            · rw [if_neg hb19] at h2
              refine CodT.no' (b := y9 == 10) (by kernel_rfl) (by simpa using hb19) ?_
              obtain ⟨r3, h3, h2⟩ := bindS h2
              refine CodT.meet (fun a w => ∃ (x22 : Bool), x22 = r3 ∧ Fr 91 [(0, .string a0), (3, .string (⟨#[48, 49, 50, 51, 52, 53, 54, 55, 56, 57, 97, 98, 99, 100, 101, 102]⟩ : ByteArray)), (4, .string (strOfNums ([92] : List Int))), (5, .string x4), (6, .int .i64 x5), (8, .int .i64 y10), (9, .int .i64 (wi64 (bt a0 x5))), (55, .bool x22)] a ∧ Inv w0 Z w A) ?_ ?_
              ·
                refine CodT.regionL [0, 1, 2, 3, 4, 5] (by kernel_rfl) ?_
                refine OpsT.pures (r := [3, 4, 5]) [0, 1, 2] [0, 3, 4, 5, 6, 7, 8, 9, 52] (S' := [(0, .string a0), (3, .string (⟨#[48, 49, 50, 51, 52, 53, 54, 55, 56, 57, 97, 98, 99, 100, 101, 102]⟩ : ByteArray)), (4, .string (strOfNums ([92] : List Int))), (5, .string x4), (6, .int .i64 x5), (7, .int .i64 y9), (8, .int .i64 y10), (9, .int .i64 (wi64 (bt a0 x5))), (52, .bool (decide (y9 ≥ 32)))]) (by kernel_rfl) ?_
                by_cases hb23 : (decide (y9 ≥ 32)) = true
                · rw [if_pos hb23] at h3
                  refine OpsT.keep [0, 3, 4, 5, 6, 7, 8, 9, 52] (S' := [(0, .string a0), (3, .string (⟨#[48, 49, 50, 51, 52, 53, 54, 55, 56, 57, 97, 98, 99, 100, 101, 102]⟩ : ByteArray)), (4, .string (strOfNums ([92] : List Int))), (5, .string x4), (6, .int .i64 x5), (7, .int .i64 y9), (8, .int .i64 y10), (9, .int .i64 (wi64 (bt a0 x5))), (52, .bool true)]) (by simp only [hb23]; kernel_rfl) ?_
                  refine OpsT.pures (r := []) [3, 4, 5] [0, 3, 4, 5, 6, 8, 9, 55] (S' := [(0, .string a0), (3, .string (⟨#[48, 49, 50, 51, 52, 53, 54, 55, 56, 57, 97, 98, 99, 100, 101, 102]⟩ : ByteArray)), (4, .string (strOfNums ([92] : List Int))), (5, .string x4), (6, .int .i64 x5), (8, .int .i64 y10), (9, .int .i64 (wi64 (bt a0 x5))), (55, .bool (y9 != 127))]) (by kernel_rfl) ?_
                  refine OpsT.done ?_
                  have e := someS h3
                  subst e
                  exact Qn.thenJ fun a ha => ⟨y9 != 127, rfl, ha.keep [0, 3, 4, 5, 6, 8, 9, 55] (by kernel_rfl), hI⟩
                · rw [if_neg hb23] at h3
                  have hb23 : (decide (y9 ≥ 32)) = false := by simpa using hb23
                  refine OpsT.keep [0, 3, 4, 5, 6, 7, 8, 9, 52] (S' := [(0, .string a0), (3, .string (⟨#[48, 49, 50, 51, 52, 53, 54, 55, 56, 57, 97, 98, 99, 100, 101, 102]⟩ : ByteArray)), (4, .string (strOfNums ([92] : List Int))), (5, .string x4), (6, .int .i64 x5), (7, .int .i64 y9), (8, .int .i64 y10), (9, .int .i64 (wi64 (bt a0 x5))), (52, .bool false)]) (by simp only [hb23]; kernel_rfl) ?_
                  refine OpsT.pures (r := []) [3, 4, 5] [0, 3, 4, 5, 6, 8, 9, 55] (S' := [(0, .string a0), (3, .string (⟨#[48, 49, 50, 51, 52, 53, 54, 55, 56, 57, 97, 98, 99, 100, 101, 102]⟩ : ByteArray)), (4, .string (strOfNums ([92] : List Int))), (5, .string x4), (6, .int .i64 x5), (8, .int .i64 y10), (9, .int .i64 (wi64 (bt a0 x5))), (55, .bool false)]) (by kernel_rfl) ?_
                  refine OpsT.done ?_
                  have e := someS h3
                  subst e
                  exact Qn.thenJ fun a ha => ⟨false, rfl, ha.keep [0, 3, 4, 5, 6, 8, 9, 55] (by kernel_rfl), hI⟩
              ·
                rintro a w ⟨x22, rfl, ha, hI⟩
                try dsimp only at h2
                refine CodT.of ?_ ha
                by_cases hb24 : x22 = true
                · rw [if_pos hb24] at h2
                  refine CodT.yes' (b := x22) (by kernel_rfl) hb24 ?_
                  refine CodT.regionL [0, 1, 2, 3, 4, 5, 6, 7, 8] (by kernel_rfl) ?_
                  refine OpsT.pures (r := [6, 7, 8]) [0, 1, 2, 3, 4, 5] [0, 3, 4, 6, 8, 56, 57, 58, 61] (S' := [(0, .string a0), (3, .string (⟨#[48, 49, 50, 51, 52, 53, 54, 55, 56, 57, 97, 98, 99, 100, 101, 102]⟩ : ByteArray)), (4, .string (strOfNums ([92] : List Int))), (6, .int .i64 x5), (8, .int .i64 y10), (56, .string x4), (57, .string a0), (58, .int .i64 x5), (61, .int .i64 (wi64 (x5 + y10)))]) (by kernel_rfl) ?_
                  obtain ⟨hg25, h2⟩ := guardS h2
                  refine OpsT.cons (Does.yi (Yl.sliceStr11 (d := 62) (T := 9) (s := a0) (lo := x5) (hi := wi64 (x5 + y10)) (by kernel_rfl) Go.Proofs.Tryd.underlying9 hg25) hI ?_)
                  obtain ⟨hg26, h2⟩ := guardS h2
                  refine OpsT.cons (Does.yi (Yl.cat (d := 63) (T := 9) (x := x4) (y := sx a0 x5 (wi64 (x5 + y10))) (by kernel_rfl) hg26) hI ?_)
                  refine OpsT.pures (r := []) [8] [0, 3, 4, 5, 6, 8] (S' := [(0, .string a0), (3, .string (⟨#[48, 49, 50, 51, 52, 53, 54, 55, 56, 57, 97, 98, 99, 100, 101, 102]⟩ : ByteArray)), (4, .string (strOfNums ([92] : List Int))), (5, .string (x4 ++ (sx a0 x5 (wi64 (x5 + y10))))), (6, .int .i64 x5), (8, .int .i64 y10)]) (by kernel_rfl) ?_
                  refine OpsT.done ?_
                  have e := someS h2
                  subst e
                  exact Qn.thenJ fun a ha => ⟨x4 ++ (sx a0 x5 (wi64 (x5 + y10))), rfl, ha.keep [0, 3, 4, 5, 6, 8] (by kernel_rfl), hI⟩
                · rw [if_neg hb24] at h2
                  refine CodT.no' (b := x22) (by kernel_rfl) (by simpa using hb24) ?_
                  refine CodT.drawI (n := 21) [] (by kernel_rfl) (by kernel_rfl) hI ?_
                  intro w hI
                  refine GmT.p' 0 64 (.string x4) (by kernel_rfl) (by kernel_rfl) ?_
                  refine GmT.p' 1 65 (.string (strOfNums ([92] : List Int))) (by kernel_rfl) (by kernel_rfl) ?_
                  refine GmT.p' 4 68 (.string (⟨#[48, 49, 50, 51, 52, 53, 54, 55, 56, 57, 97, 98, 99, 100, 101, 102]⟩ : ByteArray)) (by kernel_rfl) (by kernel_rfl) ?_
                  refine GmT.p' 5 69 (.int .i64 (wi64 (bt a0 x5))) (by kernel_rfl) (by kernel_rfl) ?_
                  refine GmT.p' 6 70 (.int .i64 (wi64 ((wi64 (bt a0 x5)).tdiv 16))) (by kernel_rfl) (by kernel_rfl) ?_
                  refine GmT.p' 7 71 (.int .i64 (wi64 (bt a0 x5))) (by kernel_rfl) (by kernel_rfl) ?_
                  refine GmT.p' 8 72 (.int .i64 (wi64 ((wi64 (bt a0 x5)).tdiv 16))) (by kernel_rfl) (by kernel_rfl) ?_
                  refine GmT.p' 9 73 (.int .i64 (wi64 ((wi64 ((wi64 (bt a0 x5)).tdiv 16)) + 1))) (by kernel_rfl) (by kernel_rfl) ?_
                  refine GmT.p' 12 76 (.string (⟨#[48, 49, 50, 51, 52, 53, 54, 55, 56, 57, 97, 98, 99, 100, 101, 102]⟩ : ByteArray)) (by kernel_rfl) (by kernel_rfl) ?_
                  refine GmT.p' 13 77 (.int .i64 (wi64 (bt a0 x5))) (by kernel_rfl) (by kernel_rfl) ?_
                  refine GmT.p' 14 78 (.int .i64 ((wi64 (bt a0 x5)).tmod 16)) (by kernel_rfl) (by kernel_rfl) ?_
                  refine GmT.p' 15 79 (.int .i64 (wi64 (bt a0 x5))) (by kernel_rfl) (by kernel_rfl) ?_
                  refine GmT.p' 16 80 (.int .i64 ((wi64 (bt a0 x5)).tmod 16)) (by kernel_rfl) (by kernel_rfl) ?_
                  refine GmT.p' 17 81 (.int .i64 (wi64 (((wi64 (bt a0 x5)).tmod 16) + 1))) (by kernel_rfl) (by kernel_rfl) ?_
                  obtain ⟨hg27, h2⟩ := guardS h2
                  refine GmT.r (i := 2) 2 (by kernel_rfl) (by kernel_rfl) (Yl.cat (d := 66) (T := 9) (x := x4) (y := strOfNums ([92] : List Int)) (by kernel_rfl) hg27) hI ?_
                  obtain ⟨hg28, h2⟩ := guardS h2
                  refine GmT.r (i := 3) 2 (by kernel_rfl) (by kernel_rfl) (Yl.cat (d := 67) (T := 9) (x := x4 ++ (strOfNums ([92] : List Int))) (y := (⟨#[120]⟩ : ByteArray)) (by kernel_rfl) hg28) hI ?_
                  obtain ⟨hg29, h2⟩ := guardS h2
                  refine GmT.r (i := 10) 2 (by kernel_rfl) (by kernel_rfl) (Yl.sliceStr11 (d := 74) (T := 9) (s := (⟨#[48, 49, 50, 51, 52, 53, 54, 55, 56, 57, 97, 98, 99, 100, 101, 102]⟩ : ByteArray)) (lo := wi64 ((wi64 (bt a0 x5)).tdiv 16)) (hi := wi64 ((wi64 ((wi64 (bt a0 x5)).tdiv 16)) + 1)) (by kernel_rfl) Go.Proofs.Tryd.underlying9 hg29) hI ?_
                  obtain ⟨hg30, h2⟩ := guardS h2
                  refine GmT.r (i := 11) 2 (by kernel_rfl) (by kernel_rfl) (Yl.cat (d := 75) (T := 9) (x := (x4 ++ (strOfNums ([92] : List Int))) ++ (⟨#[120]⟩ : ByteArray)) (y := sx (⟨#[48, 49, 50, 51, 52, 53, 54, 55, 56, 57, 97, 98, 99, 100, 101, 102]⟩ : ByteArray) (wi64 ((wi64 (bt a0 x5)).tdiv 16)) (wi64 ((wi64 ((wi64 (bt a0 x5)).tdiv 16)) + 1))) (by kernel_rfl) hg30) hI ?_
                  obtain ⟨hg31, h2⟩ := guardS h2
                  refine GmT.r (i := 18) 2 (by kernel_rfl) (by kernel_rfl) (Yl.sliceStr11 (d := 82) (T := 9) (s := (⟨#[48, 49, 50, 51, 52, 53, 54, 55, 56, 57, 97, 98, 99, 100, 101, 102]⟩ : ByteArray)) (lo := (wi64 (bt a0 x5)).tmod 16) (hi := wi64 (((wi64 (bt a0 x5)).tmod 16) + 1)) (by kernel_rfl) Go.Proofs.Tryd.underlying9 hg31) hI ?_
                  obtain ⟨hg32, h2⟩ := guardS h2
                  refine GmT.r (i := 19) 2 (by kernel_rfl) (by kernel_rfl) (Yl.cat (d := 83) (T := 9) (x := ((x4 ++ (strOfNums ([92] : List Int))) ++ (⟨#[120]⟩ : ByteArray)) ++ (sx (⟨#[48, 49, 50, 51, 52, 53, 54, 55, 56, 57, 97, 98, 99, 100, 101, 102]⟩ : ByteArray) (wi64 ((wi64 (bt a0 x5)).tdiv 16)) (wi64 ((wi64 ((wi64 (bt a0 x5)).tdiv 16)) + 1)))) (y := sx (⟨#[48, 49, 50, 51, 52, 53, 54, 55, 56, 57, 97, 98, 99, 100, 101, 102]⟩ : ByteArray) ((wi64 (bt a0 x5)).tmod 16) (wi64 (((wi64 (bt a0 x5)).tmod 16) + 1))) (by kernel_rfl) hg32) hI ?_
                  refine GmT.p' 20 5 (.string ((((x4 ++ (strOfNums ([92] : List Int))) ++ (⟨#[120]⟩ : ByteArray)) ++ (sx (⟨#[48, 49, 50, 51, 52, 53, 54, 55, 56, 57, 97, 98, 99, 100, 101, 102]⟩ : ByteArray) (wi64 ((wi64 (bt a0 x5)).tdiv 16)) (wi64 ((wi64 ((wi64 (bt a0 x5)).tdiv 16)) + 1)))) ++ (sx (⟨#[48, 49, 50, 51, 52, 53, 54, 55, 56, 57, 97, 98, 99, 100, 101, 102]⟩ : ByteArray) ((wi64 (bt a0 x5)).tmod 16) (wi64 (((wi64 (bt a0 x5)).tmod 16) + 1))))) (by kernel_rfl) (by kernel_rfl) ?_
                  refine GmT.done (by kernel_rfl) ?_
                  have e := someS h2
                  subst e
                  exact Qn.thenJ fun a ha => ⟨(((x4 ++ (strOfNums ([92] : List Int))) ++ (⟨#[120]⟩ : ByteArray)) ++ (sx (⟨#[48, 49, 50, 51, 52, 53, 54, 55, 56, 57, 97, 98, 99, 100, 101, 102]⟩ : ByteArray) (wi64 ((wi64 (bt a0 x5)).tdiv 16)) (wi64 ((wi64 ((wi64 (bt a0 x5)).tdiv 16)) + 1)))) ++ (sx (⟨#[48, 49, 50, 51, 52, 53, 54, 55, 56, 57, 97, 98, 99, 100, 101, 102]⟩ : ByteArray) ((wi64 (bt a0 x5)).tmod 16) (wi64 (((wi64 (bt a0 x5)).tmod 16) + 1))), rfl, ha.keep [0, 3, 4, 5, 6, 8] (by kernel_rfl), hI⟩
      ·
        rintro a w ⟨x12, rfl, ha, hI⟩
        try dsimp only at h1
        refine CodT.of ?_ ha
        refine CodT.regionL [0, 1, 2, 3] (by kernel_rfl) ?_
        refine OpsT.pures (r := []) [0, 1, 2, 3] [0, 3, 4, 5, 6] (S' := [(0, .string a0), (3, .string (⟨#[48, 49, 50, 51, 52, 53, 54, 55, 56, 57, 97, 98, 99, 100, 101, 102]⟩ : ByteArray)), (4, .string (strOfNums ([92] : List Int))), (5, .string x12), (6, .int .i64 (wi64 (x5 + y10)))]) (by kernel_rfl) ?_
        refine OpsT.done ?_
        refine Qn.block_normal ?_
        exact Qn.thenJ fun a ha => ⟨k, Nat.lt_succ_self k, x12, wi64 (x5 + y10), h1, ha.keep [0, 3, 4, 5, 6] (by kernel_rfl), hI⟩
    · rw [if_neg hb6] at h1
      refine CodT.no' (b := decide (x5 < (a0.size : Int))) (by kernel_rfl) (by simpa using hb6) ?_
      refine CodT.exit ?_
      refine Qn.exit_then ?_
      refine Qn.exit_then ?_
      refine Qn.block ?_
      have e := someS h1
      subst e
      exact Qn.thenJ fun a ha => ⟨x4, rfl, ha.keep [5] (by kernel_rfl), hI⟩
  ·
    rintro a w ⟨x3, rfl, ha, hI⟩
    try dsimp only at h0
    refine Qn.of ?_ ha
    refine Qn.then ?_
    refine CodT.seq ?_
    refine CodT.regionL [0, 1, 2, 3, 4] (by kernel_rfl) ?_
    refine OpsT.pures (r := [1, 2, 3, 4]) [0] [87] (S' := [(87, .string x3)]) (by kernel_rfl) ?_
    refine OpsT.cons (Does.buildSlice (en := (cI .u8)) (d := 88) (n := 1) (T := 31) (ps := [(0, .int .u8 34)]) ([34] : List Int) (by kernel_rfl) Go.Proofs.Tryd.underlying31 ty5 (by kernel_rfl) (by kernel_rfl) (by kernel_rfl) (by kernel_rfl) (len_all (fun _ => rfl)) hI ?_)
    intro b33 w hI
    refine OpsT.cons (Does.b2sOwn (d := 89) (src := 31) (dst := 9) (xs := ([34] : List Int)) (by kernel_rfl) Go.Proofs.Tryd.underlying31 Go.Proofs.Tryd.underlying5 Go.Proofs.Tryd.underlying9 hI ?_)
    obtain ⟨hg34, h0⟩ := guardS h0
    refine OpsT.cons (Does.yi (Yl.cat (d := 90) (T := 9) (x := x3) (y := strOfNums ([34] : List Int)) (by kernel_rfl) hg34) hI ?_)
    refine OpsT.pures (r := []) [4] [2] (S' := [(2, .string (x3 ++ (strOfNums ([34] : List Int))))]) (by kernel_rfl) ?_
    refine OpsT.done ?_
    refine Qn.then ?_
    refine CodT.ret ?_
    have hI := hI.drop
    have e := someS h0
    subst e
    refine Qn.keep [2] (S' := [(2, .string (x3 ++ (strOfNums ([34] : List Int))))]) (by kernel_rfl) ?_
    exact post_ret (v := .string (x3 ++ (strOfNums ([34] : List Int)))) (fun a ha => RunRes.run (vs := [.string (x3 ++ (strOfNums ([34] : List Int)))]) (.tmp (t := 2) (by kernel_rfl) .nil) ha (by kernel_rfl)) ⟨rfl, hI⟩
set_option maxRecDepth 100000 in
set_option maxHeartbeats 4000000 in
/-- cenotaph/cenotaphref03.Unquote -/
theorem c6 (w0 w : World) (Z : Hp) (A : HP) (hI : Inv w0 Z w A) (hT : Tabs Z) (a0 : ByteArray) (r : (ByteArray × Bool)) (h0 : ref03_Unquote a0 = some r) :
    Calls prog 6 #[.string a0] w (fun e w' => e = .returned (.tuple #[.string r.1, .bool r.2]) ∧ Inv w0 Z w' A) := by
  have e4 := calls_intro (R := (fun e w' => e = .returned (.tuple #[.string r.1, .bool r.2]) ∧ Inv w0 Z w' A)) (w := w) (args := [.string a0]) (fn := Go.Proofs.Tryd.f6) 116 Go.Proofs.Tryd.func6 (by rfl) Go.Proofs.Tryd.ntmps6 (by kernel_rfl)
  refine e4 ?_
  clear e4
  unfold ref03_Unquote at h0
  refine CodT.seq ?_
  refine CodT.regionL [0, 1] (by kernel_rfl) ?_
  refine OpsT.pures (r := []) [0, 1] [0] (S' := [(0, .string a0)]) (by kernel_rfl) ?_
  refine OpsT.done ?_
  refine Qn.then ?_
  refine CodT.seq ?_
  obtain ⟨r1, h1, h0⟩ := bindS h0
  refine CodT.meet (fun a w => ∃ (x1 : Bool), x1 = r1 ∧ Fr 116 [(0, .string a0), (22, .bool x1)] a ∧ Inv w0 Z w A) ?_ ?_
  ·
    refine CodT.regionL [0, 1, 2, 3, 4, 5, 6, 7, 8, 9, 10, 11, 12, 13, 14, 15] (by kernel_rfl) ?_
    refine OpsT.pures (r := [4, 5, 6, 7, 8, 9, 10, 11, 12, 13, 14, 15]) [0, 1, 2, 3] [0, 10] (S' := [(0, .string a0), (10, .bool (decide ((a0.size : Int) < 2)))]) (by kernel_rfl) ?_
    by_cases hb2 : (decide ((a0.size : Int) < 2)) = true
    · rw [if_pos hb2] at h1
      refine OpsT.keep [0, 10] (S' := [(0, .string a0), (10, .bool true)]) (by simp only [hb2]; kernel_rfl) ?_
      refine OpsT.pures (r := []) [4, 5, 6, 7, 8, 9, 10, 11, 12, 13, 14, 15] [0, 22] (S' := [(0, .string a0), (22, .bool true)]) (by kernel_rfl) ?_
      refine OpsT.done ?_
      have e := someS h1
      subst e
      exact Qn.thenJ fun a ha => ⟨true, rfl, ha.keep [0, 22] (by kernel_rfl), hI⟩
    · rw [if_neg hb2] at h1
      have hb2 : (decide ((a0.size : Int) < 2)) = false := by simpa using hb2
      refine OpsT.keep [0, 10] (S' := [(0, .string a0), (10, .bool false)]) (by simp only [hb2]; kernel_rfl) ?_
      refine OpsT.pures (r := [5, 6, 7, 8, 9, 10, 11, 12, 13, 14, 15]) [4] [0, 10, 11] (S' := [(0, .string a0), (10, .bool false), (11, .string a0)]) (by kernel_rfl) ?_
      obtain ⟨hg3, h1⟩ := guardS h1
      refine OpsT.cons (Does.yi (Yl.indexStr (d := 12) (T := 9) (k := .i64) (j := 0) (s := a0) (by kernel_rfl) Go.Proofs.Tryd.underlying9 hg3.1 hg3.2) hI ?_)
      refine OpsT.pures (r := [9, 10, 11, 12, 13, 14, 15]) [6, 7, 8] [0, 15] (S' := [(0, .string a0), (15, .bool ((bt a0 0) != 34))]) (by kernel_rfl) ?_
      by_cases hb4 : ((bt a0 0) != 34) = true
      · rw [if_pos hb4] at h1
        refine OpsT.keep [0, 15] (S' := [(0, .string a0), (15, .bool true)]) (by simp only [hb4]; kernel_rfl) ?_
        refine OpsT.pures (r := []) [9, 10, 11, 12, 13, 14, 15] [0, 22] (S' := [(0, .string a0), (22, .bool true)]) (by kernel_rfl) ?_
        refine OpsT.done ?_
        have e := someS h1
        subst e
        exact Qn.thenJ fun a ha => ⟨true, rfl, ha.keep [0, 22] (by kernel_rfl), hI⟩
      · rw [if_neg hb4] at h1
        have hb4 : ((bt a0 0) != 34) = false := by simpa using hb4
        refine OpsT.keep [0, 15] (S' := [(0, .string a0), (15, .bool false)]) (by simp only [hb4]; kernel_rfl) ?_
        refine OpsT.pures (r := [13, 14, 15]) [9, 10, 11, 12] [0, 15, 16, 19] (S' := [(0, .string a0), (15, .bool false), (16, .string a0), (19, .int .i64 (wi64 ((a0.size : Int) - 1)))]) (by kernel_rfl) ?_
        obtain ⟨hg5, h1⟩ := guardS h1
        refine OpsT.cons (Does.yi (Yl.indexStr (d := 20) (T := 9) (k := .i64) (j := wi64 ((a0.size : Int) - 1)) (s := a0) (by kernel_rfl) Go.Proofs.Tryd.underlying9 hg5.1 hg5.2) hI ?_)
        refine OpsT.pures (r := []) [14, 15] [0, 22] (S' := [(0, .string a0), (22, .bool ((bt a0 (wi64 ((a0.size : Int) - 1))) != 34))]) (by kernel_rfl) ?_
        refine OpsT.done ?_
        have e := someS h1
        subst e
        exact Qn.thenJ fun a ha => ⟨(bt a0 (wi64 ((a0.size : Int) - 1))) != 34, rfl, ha.keep [0, 22] (by kernel_rfl), hI⟩
  ·
    rintro a w ⟨x1, rfl, ha, hI⟩
    try dsimp only at h0
    refine CodT.of ?_ ha
    by_cases hb6 : x1 = true
    · rw [if_pos hb6] at h0
      refine CodT.yes' (b := x1) (by kernel_rfl) hb6 ?_
      refine CodT.seq ?_
      refine CodT.regionL [0, 1] (by kernel_rfl) ?_
      refine OpsT.pures (r := []) [0, 1] [2, 3] (S' := [(2, .string (⟨#[]⟩ : ByteArray)), (3, .bool false)]) (by kernel_rfl) ?_
      refine OpsT.done ?_
      refine Qn.then ?_
      refine CodT.ret ?_
      refine Qn.ret_then ?_
      have e := someS h0
      subst e
      refine Qn.keep [2, 3] (S' := [(2, .string (⟨#[]⟩ : ByteArray)), (3, .bool false)]) (by kernel_rfl) ?_
      exact post_ret (v := .tuple #[.string (⟨#[]⟩ : ByteArray), .bool false]) (fun a ha => RunRes.run (vs := [.string (⟨#[]⟩ : ByteArray), .bool false]) (.tmp (t := 2) (by kernel_rfl) (.tmp (t := 3) (by kernel_rfl) .nil)) ha (by kernel_rfl)) ⟨rfl, hI⟩
    · rw [if_neg hb6] at h0
      refine CodT.no' (b := x1) (by kernel_rfl) (by simpa using hb6) ?_
      refine CodT.skip ?_
      refine Qn.then ?_
      refine CodT.seq ?_
      refine CodT.regionL [0, 1, 2, 3, 4, 5] (by kernel_rfl) ?_
      refine OpsT.pures (r := [4, 5]) [0, 1, 2, 3] [0, 23, 26] (S' := [(0, .string a0), (23, .string a0), (26, .int .i64 (wi64 ((a0.size : Int) - 1)))]) (by kernel_rfl) ?_
      obtain ⟨hg7, h0⟩ := guardS h0
      refine OpsT.cons (Does.yi (Yl.sliceStr11 (d := 27) (T := 9) (s := a0) (lo := 1) (hi := wi64 ((a0.size : Int) - 1)) (by kernel_rfl) Go.Proofs.Tryd.underlying9 hg7) hI ?_)
      refine OpsT.pures (r := []) [5] [0, 4] (S' := [(0, .string a0), (4, .string (sx a0 1 (wi64 ((a0.size : Int) - 1))))]) (by kernel_rfl) ?_
      refine OpsT.done ?_
      refine Qn.then ?_
      refine CodT.seq ?_
      refine CodT.regionL [0] (by kernel_rfl) ?_
      refine OpsT.pures (r := []) [0] [0, 4, 5] (S' := [(0, .string a0), (4, .string (sx a0 1 (wi64 ((a0.size : Int) - 1)))), (5, .slice none 0 0)]) (by kernel_rfl) ?_
      refine OpsT.done ?_
      refine Qn.then ?_
      refine CodT.seq ?_
      refine CodT.seq ?_
      refine CodT.regionL [0] (by kernel_rfl) ?_
      refine OpsT.pures (r := []) [0] [0, 4, 5, 6] (S' := [(0, .string a0), (4, .string (sx a0 1 (wi64 ((a0.size : Int) - 1)))), (5, .slice none 0 0), (6, .int .i64 0)]) (by kernel_rfl) ?_
      refine OpsT.done ?_
      refine Qn.then ?_
      obtain ⟨r1, h1, h0⟩ := bindS h0
      refine CodT.meet1 (fun a w => ∃ (x8 : (List Int)) (A9 : Option Addr) (cp10 : Nat), .inr x8 = r1 ∧ Fr 116 [(0, .string a0), (5, .slice A9 x8.length cp10)] a ∧ Inv w0 Z w (star (ownS 5 (cI .u8) 1 A9 cp10 x8) A)) ?_ ?_
      ·
        refine CodT.block ?_
        have hI := ownS_nil (α := Int) hI 5 (cI .u8) 1
        refine (fun a ha => wp_loopN (fun k a w => ∃ (x11 : (List Int)) (x14 : Int) (A12 : Option Addr) (cp13 : Nat), ref03_Unquote.l0 a0 k x11 x14 = some r1 ∧ Fr 116 [(0, .string a0), (4, .string (sx a0 1 (wi64 ((a0.size : Int) - 1)))), (5, .slice A12 x11.length cp13), (6, .int .i64 x14)] a ∧ Inv w0 Z w (star (ownS 5 (cI .u8) 1 A12 cp13 x11) A)) ?_ FU a w ⟨([] : List Int), 0, none, 0, h1, ha.keep [0, 4, 5, 6] (by kernel_rfl), hI⟩)
        clear h1 hI
        rintro k a w ⟨x11, x14, A12, cp13, h1, ha, hI⟩
        rcases k with _ | k
        · cases h1
        simp only [ref03_Unquote.l0] at h1
        refine CodT.of ?_ ha
        refine CodT.seq ?_
        refine CodT.seq ?_
        refine CodT.regionL [0, 1, 2, 3] (by kernel_rfl) ?_
        refine OpsT.pures (r := []) [0, 1, 2, 3] [0, 4, 5, 6, 31] (S' := [(0, .string a0), (4, .string (sx a0 1 (wi64 ((a0.size : Int) - 1)))), (5, .slice A12 x11.length cp13), (6, .int .i64 x14), (31, .bool (decide (x14 < ((sx a0 1 (wi64 ((a0.size : Int) - 1))).size : Int))))]) (by kernel_rfl) ?_
        refine OpsT.done ?_
        refine Qn.then ?_
        by_cases hb15 : (decide (x14 < ((sx a0 1 (wi64 ((a0.size : Int) - 1))).size : Int))) = true
        · rw [if_pos hb15] at h1
          refine CodT.yes' (b := decide (x14 < ((sx a0 1 (wi64 ((a0.size : Int) - 1))).size : Int))) (by kernel_rfl) hb15 ?_
          refine CodT.skip ?_
          refine Qn.then ?_
          obtain ⟨r2, h2, h1⟩ := bindS h1
          refine CodT.meet (fun a w => ∃ (x16 : (List Int)) (x19 : Int) (A17 : Option Addr) (cp18 : Nat), .inr (x16, x19) = r2 ∧ Fr 116 [(0, .string a0), (4, .string (sx a0 1 (wi64 ((a0.size : Int) - 1)))), (5, .slice A17 x16.length cp18), (6, .int .i64 x19)] a ∧ Inv w0 Z w (star (ownS 5 (cI .u8) 1 A17 cp18 x16) A)) ?_ ?_
          ·
            refine CodT.block ?_
            refine CodT.seq ?_
            refine CodT.seq ?_
            refine CodT.regionL [0, 1, 2, 3] (by kernel_rfl) ?_
            refine OpsT.pures (r := [2, 3]) [0, 1] [0, 4, 5, 6, 34, 35] (S' := [(0, .string a0), (4, .string (sx a0 1 (wi64 ((a0.size : Int) - 1)))), (5, .slice A12 x11.length cp13), (6, .int .i64 x14), (34, .string (sx a0 1 (wi64 ((a0.size : Int) - 1)))), (35, .int .i64 x14)]) (by kernel_rfl) ?_
            obtain ⟨hg20, h2⟩ := guardS h2
            refine OpsT.cons (Does.yi (Yl.indexStr (d := 36) (T := 9) (k := .i64) (j := x14) (s := sx a0 1 (wi64 ((a0.size : Int) - 1))) (by kernel_rfl) Go.Proofs.Tryd.underlying9 hg20.1 hg20.2) hI ?_)
            refine OpsT.pures (r := []) [3] [0, 4, 5, 6, 37] (S' := [(0, .string a0), (4, .string (sx a0 1 (wi64 ((a0.size : Int) - 1)))), (5, .slice A12 x11.length cp13), (6, .int .i64 x14), (37, .bool ((bt (sx a0 1 (wi64 ((a0.size : Int) - 1))) x14) != 92))]) (by kernel_rfl) ?_
            refine OpsT.done ?_
            refine Qn.then ?_
            by_cases hb21 : ((bt (sx a0 1 (wi64 ((a0.size : Int) - 1))) x14) != 92) = true
            · rw [if_pos hb21] at h2
              refine CodT.yes' (b := (bt (sx a0 1 (wi64 ((a0.size : Int) - 1))) x14) != 92) (by kernel_rfl) hb21 ?_
              refine CodT.seq ?_
              refine CodT.regionL [0, 1, 2, 3, 4, 5, 6] (by kernel_rfl) ?_
              refine OpsT.pures (r := [3, 4, 5, 6]) [0, 1, 2] [0, 4, 6, 38, 39, 40] (S' := [(0, .string a0), (4, .string (sx a0 1 (wi64 ((a0.size : Int) - 1)))), (6, .int .i64 x14), (38, .slice A12 x11.length cp13), (39, .string (sx a0 1 (wi64 ((a0.size : Int) - 1)))), (40, .int .i64 x14)]) (by kernel_rfl) ?_
              obtain ⟨hg22, h2⟩ := guardS h2
              refine OpsT.cons (Does.yi (Yl.indexStr (d := 41) (T := 9) (k := .i64) (j := x14) (s := sx a0 1 (wi64 ((a0.size : Int) - 1))) (by kernel_rfl) Go.Proofs.Tryd.underlying9 hg22.1 hg22.2) hI ?_)
              refine OpsT.cons (Does.buildSlice (en := (cI .u8)) (d := 42) (n := 1) (T := 31) (ps := [(0, .int .u8 (bt (sx a0 1 (wi64 ((a0.size : Int) - 1))) x14))]) ([bt (sx a0 1 (wi64 ((a0.size : Int) - 1))) x14] : List Int) (by kernel_rfl) Go.Proofs.Tryd.underlying31 ty5 (by kernel_rfl) (by kernel_rfl) (by kernel_rfl) (by kernel_rfl) (len_all (fun _ => rfl)) hI ?_)
              intro b23 w hI
              obtain ⟨hg24, h2⟩ := guardS h2
              have hI := hI.mono (pick2 _ _ _)
              refine OpsT.cons (Does.append (d := 43) (t := 31) (tx := 31) (ty := 31) (ys := x11) (zs := ([bt (sx a0 1 (wi64 ((a0.size : Int) - 1))) x14] : List Int)) (x := .slice (some ⟨b23, 0, none⟩) (([bt (sx a0 1 (wi64 ((a0.size : Int) - 1))) x14] : List Int).length) 1) (by kernel_rfl) Go.Proofs.Tryd.underlying31 ty5 (by kernel_rfl) hI (src_own Go.Proofs.Tryd.underlying31 (hI.mono (pick2 _ _ _)) (one_flat _ (fun _ => rfl))) (ownS_facts (hI.mono (pick2 _ _ _))).2.2 (by unfold LIM at hg24; omega) hg24 ?_)
              intro A25 cp26 w hI
              refine OpsT.pures (r := []) [6] [0, 4, 5, 6] (S' := [(0, .string a0), (4, .string (sx a0 1 (wi64 ((a0.size : Int) - 1)))), (5, .slice A25 ((x11 ++ ([bt (sx a0 1 (wi64 ((a0.size : Int) - 1))) x14] : List Int)).length) cp26), (6, .int .i64 x14)]) (by kernel_rfl) ?_
              refine OpsT.done ?_
              refine Qn.then ?_
              refine CodT.exit ?_
              refine Qn.exit_then ?_
              refine Qn.block ?_
              have hI := hI.mono (pick2 _ _ _)
              have hI := hI.drop
              have e := someS h2
              subst e
              exact Qn.thenJ fun a ha => ⟨x11 ++ ([bt (sx a0 1 (wi64 ((a0.size : Int) - 1))) x14] : List Int), x14, A25, cp26, rfl, ha.keep [0, 4, 5, 6] (by kernel_rfl), hI⟩
            · rw [if_neg hb21] at h2
              refine CodT.no' (b := (bt (sx a0 1 (wi64 ((a0.size : Int) - 1))) x14) != 92) (by kernel_rfl) (by simpa using hb21) ?_
              refine CodT.skip ?_
              refine Qn.then ?_
              refine CodT.seq ?_
              refine CodT.seq ?_
              refine CodT.regionL [0, 1, 2, 3, 4] (by kernel_rfl) ?_
              refine OpsT.pures (r := []) [0, 1, 2, 3, 4] [0, 4, 5, 6, 48] (S' := [(0, .string a0), (4, .string (sx a0 1 (wi64 ((a0.size : Int) - 1)))), (5, .slice A12 x11.length cp13), (6, .int .i64 x14), (48, .bool (decide ((wi64 (x14 + 1)) ≥ ((sx a0 1 (wi64 ((a0.size : Int) - 1))).size : Int))))]) (by kernel_rfl) ?_
              refine OpsT.done ?_
              refine Qn.then ?_
              by_cases hb27 : (decide ((wi64 (x14 + 1)) ≥ ((sx a0 1 (wi64 ((a0.size : Int) - 1))).size : Int))) = true
              · rw [if_pos hb27] at h2
                refine CodT.yes' (b := decide ((wi64 (x14 + 1)) ≥ ((sx a0 1 (wi64 ((a0.size : Int) - 1))).size : Int))) (by kernel_rfl) hb27 ?_
                refine CodT.seq ?_
                refine CodT.regionL [0, 1] (by kernel_rfl) ?_
                refine OpsT.pures (r := []) [0, 1] [2, 3] (S' := [(2, .string (⟨#[]⟩ : ByteArray)), (3, .bool false)]) (by kernel_rfl) ?_
                refine OpsT.done ?_
                refine Qn.then ?_
                refine CodT.ret ?_
                refine Qn.ret_then ?_
                refine Qn.block_ret ?_
                refine Qn.ret_then ?_
                refine Qn.ret_then ?_
                refine Qn.block_ret ?_
                refine Qn.ret_then ?_
                refine Qn.ret_then ?_
                have hI := hI.drop
                have e := someS h2
                subst e
                try dsimp only at h1
                have e := someS h1
                subst e
                try dsimp only at h0
                have e := someS h0
                subst e
                refine Qn.keep [2, 3] (S' := [(2, .string (⟨#[]⟩ : ByteArray)), (3, .bool false)]) (by kernel_rfl) ?_
                exact post_ret (v := .tuple #[.string (⟨#[]⟩ : ByteArray), .bool false]) (fun a ha => RunRes.run (vs := [.string (⟨#[]⟩ : ByteArray), .bool false]) (.tmp (t := 2) (by kernel_rfl) (.tmp (t := 3) (by kernel_rfl) .nil)) ha (by kernel_rfl)) ⟨rfl, hI⟩
              · rw [if_neg hb27] at h2
                refine CodT.no' (b := decide ((wi64 (x14 + 1)) ≥ ((sx a0 1 (wi64 ((a0.size : Int) - 1))).size : Int))) (by kernel_rfl) (by simpa using hb27) ?_
                refine CodT.skip ?_
                refine Qn.then ?_
                refine CodT.seq ?_
                refine CodT.regionL [0, 1, 2] (by kernel_rfl) ?_
                refine OpsT.pures (r := []) [0, 1, 2] [0, 4, 5, 6] (S' := [(0, .string a0), (4, .string (sx a0 1 (wi64 ((a0.size : Int) - 1)))), (5, .slice A12 x11.length cp13), (6, .int .i64 (wi64 (x14 + 1)))]) (by kernel_rfl) ?_
                refine OpsT.done ?_
                refine Qn.then ?_
                refine CodT.seq ?_
                refine CodT.regionL [0, 1, 2, 3] (by kernel_rfl) ?_
                refine OpsT.pures (r := [2, 3]) [0, 1] [0, 4, 5, 6, 51, 52] (S' := [(0, .string a0), (4, .string (sx a0 1 (wi64 ((a0.size : Int) - 1)))), (5, .slice A12 x11.length cp13), (6, .int .i64 (wi64 (x14 + 1))), (51, .string (sx a0 1 (wi64 ((a0.size : Int) - 1)))), (52, .int .i64 (wi64 (x14 + 1)))]) (by kernel_rfl) ?_
                obtain ⟨hg28, h2⟩ := guardS h2
                refine OpsT.cons (Does.yi (Yl.indexStr (d := 53) (T := 9) (k := .i64) (j := wi64 (x14 + 1)) (s := sx a0 1 (wi64 ((a0.size : Int) - 1))) (by kernel_rfl) Go.Proofs.Tryd.underlying9 hg28.1 hg28.2) hI ?_)
                refine OpsT.pures (r := []) [3] [0, 4, 5, 6, 54] (S' := [(0, .string a0), (4, .string (sx a0 1 (wi64 ((a0.size : Int) - 1)))), (5, .slice A12 x11.length cp13), (6, .int .i64 (wi64 (x14 + 1))), (54, .bool ((bt (sx a0 1 (wi64 ((a0.size : Int) - 1))) (wi64 (x14 + 1))) == 110))]) (by kernel_rfl) ?_
                refine OpsT.done ?_
                refine Qn.then ?_
                by_cases hb29 : ((bt (sx a0 1 (wi64 ((a0.size : Int) - 1))) (wi64 (x14 + 1))) == 110) = true
                · rw [if_pos hb29] at h2
                  refine CodT.yes' (b := (bt (sx a0 1 (wi64 ((a0.size : Int) - 1))) (wi64 (x14 + 1))) == 110) (by kernel_rfl) hb29 ?_
                  refine CodT.regionL [0, 1, 2, 3] (by kernel_rfl) ?_
                  refine OpsT.pures (r := [1, 2, 3]) [0] [0, 4, 6, 55] (S' := [(0, .string a0), (4, .string (sx a0 1 (wi64 ((a0.size : Int) - 1)))), (6, .int .i64 (wi64 (x14 + 1))), (55, .slice A12 x11.length cp13)]) (by kernel_rfl) ?_
                  refine OpsT.cons (Does.buildSlice (en := (cI .u8)) (d := 56) (n := 1) (T := 31) (ps := [(0, .int .u8 10)]) ([10] : List Int) (by kernel_rfl) Go.Proofs.Tryd.underlying31 ty5 (by kernel_rfl) (by kernel_rfl) (by kernel_rfl) (by kernel_rfl) (len_all (fun _ => rfl)) hI ?_)
                  intro b30 w hI
                  obtain ⟨hg31, h2⟩ := guardS h2
                  have hI := hI.mono (pick2 _ _ _)
                  refine OpsT.cons (Does.append (d := 57) (t := 31) (tx := 31) (ty := 31) (ys := x11) (zs := ([10] : List Int)) (x := .slice (some ⟨b30, 0, none⟩) (([10] : List Int).length) 1) (by kernel_rfl) Go.Proofs.Tryd.underlying31 ty5 (by kernel_rfl) hI (src_own Go.Proofs.Tryd.underlying31 (hI.mono (pick2 _ _ _)) (one_flat _ (fun _ => rfl))) (ownS_facts (hI.mono (pick2 _ _ _))).2.2 (by unfold LIM at hg31; omega) hg31 ?_)
                  intro A32 cp33 w hI
                  refine OpsT.pures (r := []) [3] [0, 4, 5, 6] (S' := [(0, .string a0), (4, .string (sx a0 1 (wi64 ((a0.size : Int) - 1)))), (5, .slice A32 ((x11 ++ ([10] : List Int)).length) cp33), (6, .int .i64 (wi64 (x14 + 1)))]) (by kernel_rfl) ?_
                  refine OpsT.done ?_
                  refine Qn.block_normal ?_
                  have hI := hI.mono (pick2 _ _ _)
                  have hI := hI.drop
                  have e := someS h2
                  subst e
                  exact Qn.thenJ fun a ha => ⟨x11 ++ ([10] : List Int), wi64 (x14 + 1), A32, cp33, rfl, ha.keep [0, 4, 5, 6] (by kernel_rfl), hI⟩
                · rw [if_neg hb29] at h2
                  refine CodT.no' (b := (bt (sx a0 1 (wi64 ((a0.size : Int) - 1))) (wi64 (x14 + 1))) == 110) (by kernel_rfl) (by simpa using hb29) ?_
                  obtain ⟨r3, h3, h2⟩ := bindS h2
                  refine CodT.meet (fun a w => ∃ (x34 : Bool), x34 = r3 ∧ Fr 116 [(0, .string a0), (4, .string (sx a0 1 (wi64 ((a0.size : Int) - 1)))), (5, .slice A12 x11.length cp13), (6, .int .i64 (wi64 (x14 + 1))), (84, .bool x34)] a ∧ Inv w0 Z w (star (ownS 5 (cI .u8) 1 A12 cp13 x11) A)) ?_ ?_
                  ·
                    refine CodT.regionL [0, 1, 2, 3, 4, 5, 6, 7, 8, 9, 10, 11, 12, 13, 14, 15, 16, 17, 18, 19, 20, 21, 22, 23, 24, 25, 26] (by kernel_rfl) ?_
                    refine OpsT.pures (r := [2, 3, 4, 5, 6, 7, 8, 9, 10, 11, 12, 13, 14, 15, 16, 17, 18, 19, 20, 21, 22, 23, 24, 25, 26]) [0, 1] [0, 4, 5, 6, 58, 59] (S' := [(0, .string a0), (4, .string (sx a0 1 (wi64 ((a0.size : Int) - 1)))), (5, .slice A12 x11.length cp13), (6, .int .i64 (wi64 (x14 + 1))), (58, .string (sx a0 1 (wi64 ((a0.size : Int) - 1)))), (59, .int .i64 (wi64 (x14 + 1)))]) (by kernel_rfl) ?_
                    obtain ⟨hg35, h3⟩ := guardS h3
                    refine OpsT.cons (Does.yi (Yl.indexStr (d := 60) (T := 9) (k := .i64) (j := wi64 (x14 + 1)) (s := sx a0 1 (wi64 ((a0.size : Int) - 1))) (by kernel_rfl) Go.Proofs.Tryd.underlying9 hg35.1 hg35.2) hI ?_)
                    refine OpsT.pures (r := [5, 6, 7, 8, 9, 10, 11, 12, 13, 14, 15, 16, 17, 18, 19, 20, 21, 22, 23, 24, 25, 26]) [3, 4] [0, 4, 5, 6, 62] (S' := [(0, .string a0), (4, .string (sx a0 1 (wi64 ((a0.size : Int) - 1)))), (5, .slice A12 x11.length cp13), (6, .int .i64 (wi64 (x14 + 1))), (62, .bool ((bt (sx a0 1 (wi64 ((a0.size : Int) - 1))) (wi64 (x14 + 1))) == 120))]) (by kernel_rfl) ?_
                    by_cases hb36 : ((bt (sx a0 1 (wi64 ((a0.size : Int) - 1))) (wi64 (x14 + 1))) == 120) = true
                    · rw [if_pos hb36] at h3
                      refine OpsT.keep [0, 4, 5, 6, 62] (S' := [(0, .string a0), (4, .string (sx a0 1 (wi64 ((a0.size : Int) - 1)))), (5, .slice A12 x11.length cp13), (6, .int .i64 (wi64 (x14 + 1))), (62, .bool true)]) (by simp only [hb36]; kernel_rfl) ?_
                      refine OpsT.pures (r := [12, 13, 14, 15, 16, 17, 18, 19, 20, 21, 22, 23, 24, 25, 26]) [5, 6, 7, 8, 9, 10, 11] [0, 4, 5, 6, 69] (S' := [(0, .string a0), (4, .string (sx a0 1 (wi64 ((a0.size : Int) - 1)))), (5, .slice A12 x11.length cp13), (6, .int .i64 (wi64 (x14 + 1))), (69, .bool (decide ((wi64 ((wi64 (x14 + 1)) + 2)) < ((sx a0 1 (wi64 ((a0.size : Int) - 1))).size : Int))))]) (by kernel_rfl) ?_
                      by_cases hb37 : (decide ((wi64 ((wi64 (x14 + 1)) + 2)) < ((sx a0 1 (wi64 ((a0.size : Int) - 1))).size : Int))) = true
                      · rw [if_pos hb37] at h3
                        refine OpsT.keep [0, 4, 5, 6, 69] (S' := [(0, .string a0), (4, .string (sx a0 1 (wi64 ((a0.size : Int) - 1)))), (5, .slice A12 x11.length cp13), (6, .int .i64 (wi64 (x14 + 1))), (69, .bool true)]) (by simp only [hb37]; kernel_rfl) ?_
                        refine OpsT.pures (r := [15, 16, 17, 18, 19, 20, 21, 22, 23, 24, 25, 26]) [12, 13, 14] [0, 4, 5, 6, 69, 70, 72] (S' := [(0, .string a0), (4, .string (sx a0 1 (wi64 ((a0.size : Int) - 1)))), (5, .slice A12 x11.length cp13), (6, .int .i64 (wi64 (x14 + 1))), (69, .bool true), (70, .string (sx a0 1 (wi64 ((a0.size : Int) - 1)))), (72, .int .i64 (wi64 ((wi64 (x14 + 1)) + 1)))]) (by kernel_rfl) ?_
                        obtain ⟨hg38, h3⟩ := guardS h3
                        refine OpsT.cons (Does.yi (Yl.indexStr (d := 73) (T := 9) (k := .i64) (j := wi64 ((wi64 (x14 + 1)) + 1)) (s := sx a0 1 (wi64 ((a0.size : Int) - 1))) (by kernel_rfl) Go.Proofs.Tryd.underlying9 hg38.1 hg38.2) hI ?_)
                        obtain ⟨y40, hc39, h3⟩ := bindS h3
                        try dsimp only at h3
                        refine OpsT.cons (Does.call (d := some 74) (n := 18) (vs := [.int .u8 (bt (sx a0 1 (wi64 ((a0.size : Int) - 1))) (wi64 ((wi64 (x14 + 1)) + 1)))]) (by kernel_rfl) en18 (c18 w0 w _ _ hI hT (bt (sx a0 1 (wi64 ((a0.size : Int) - 1))) (wi64 ((wi64 (x14 + 1)) + 1))) _ hc39) ?_)
                        rintro e w ⟨rfl, hI⟩
                        refine ⟨_, rfl, ?_⟩
                        refine OpsT.pures (r := [20, 21, 22, 23, 24, 25, 26]) [17, 18, 19] [0, 4, 5, 6, 77] (S' := [(0, .string a0), (4, .string (sx a0 1 (wi64 ((a0.size : Int) - 1)))), (5, .slice A12 x11.length cp13), (6, .int .i64 (wi64 (x14 + 1))), (77, .bool (decide (y40 ≥ 0)))]) (by kernel_rfl) ?_
                        by_cases hb41 : (decide (y40 ≥ 0)) = true
                        · rw [if_pos hb41] at h3
                          refine OpsT.keep [0, 4, 5, 6, 77] (S' := [(0, .string a0), (4, .string (sx a0 1 (wi64 ((a0.size : Int) - 1)))), (5, .slice A12 x11.length cp13), (6, .int .i64 (wi64 (x14 + 1))), (77, .bool true)]) (by simp only [hb41]; kernel_rfl) ?_
                          refine OpsT.pures (r := [23, 24, 25, 26]) [20, 21, 22] [0, 4, 5, 6, 77, 78, 80] (S' := [(0, .string a0), (4, .string (sx a0 1 (wi64 ((a0.size : Int) - 1)))), (5, .slice A12 x11.length cp13), (6, .int .i64 (wi64 (x14 + 1))), (77, .bool true), (78, .string (sx a0 1 (wi64 ((a0.size : Int) - 1)))), (80, .int .i64 (wi64 ((wi64 (x14 + 1)) + 2)))]) (by kernel_rfl) ?_
                          obtain ⟨hg42, h3⟩ := guardS h3
                          refine OpsT.cons (Does.yi (Yl.indexStr (d := 81) (T := 9) (k := .i64) (j := wi64 ((wi64 (x14 + 1)) + 2)) (s := sx a0 1 (wi64 ((a0.size : Int) - 1))) (by kernel_rfl) Go.Proofs.Tryd.underlying9 hg42.1 hg42.2) hI ?_)
                          obtain ⟨y44, hc43, h3⟩ := bindS h3
                          try dsimp only at h3
                          refine OpsT.cons (Does.call (d := some 82) (n := 18) (vs := [.int .u8 (bt (sx a0 1 (wi64 ((a0.size : Int) - 1))) (wi64 ((wi64 (x14 + 1)) + 2)))]) (by kernel_rfl) en18 (c18 w0 w _ _ hI hT (bt (sx a0 1 (wi64 ((a0.size : Int) - 1))) (wi64 ((wi64 (x14 + 1)) + 2))) _ hc43) ?_)
                          rintro e w ⟨rfl, hI⟩
                          refine ⟨_, rfl, ?_⟩
                          refine OpsT.pures (r := []) [25, 26] [0, 4, 5, 6, 84] (S' := [(0, .string a0), (4, .string (sx a0 1 (wi64 ((a0.size : Int) - 1)))), (5, .slice A12 x11.length cp13), (6, .int .i64 (wi64 (x14 + 1))), (84, .bool (decide (y44 ≥ 0)))]) (by kernel_rfl) ?_
                          refine OpsT.done ?_
                          have e := someS h3
                          subst e
                          exact Qn.thenJ fun a ha => ⟨decide (y44 ≥ 0), rfl, ha.keep [0, 4, 5, 6, 84] (by kernel_rfl), hI⟩
                        · rw [if_neg hb41] at h3
                          have hb41 : (decide (y40 ≥ 0)) = false := by simpa using hb41
                          refine OpsT.keep [0, 4, 5, 6, 77] (S' := [(0, .string a0), (4, .string (sx a0 1 (wi64 ((a0.size : Int) - 1)))), (5, .slice A12 x11.length cp13), (6, .int .i64 (wi64 (x14 + 1))), (77, .bool false)]) (by simp only [hb41]; kernel_rfl) ?_
                          refine OpsT.pures (r := []) [20, 21, 22, 23, 24, 25, 26] [0, 4, 5, 6, 84] (S' := [(0, .string a0), (4, .string (sx a0 1 (wi64 ((a0.size : Int) - 1)))), (5, .slice A12 x11.length cp13), (6, .int .i64 (wi64 (x14 + 1))), (84, .bool false)]) (by kernel_rfl) ?_
                          refine OpsT.done ?_
                          have e := someS h3
                          subst e
                          exact Qn.thenJ fun a ha => ⟨false, rfl, ha.keep [0, 4, 5, 6, 84] (by kernel_rfl), hI⟩
                      · rw [if_neg hb37] at h3
                        have hb37 : (decide ((wi64 ((wi64 (x14 + 1)) + 2)) < ((sx a0 1 (wi64 ((a0.size : Int) - 1))).size : Int))) = false := by simpa using hb37
                        refine OpsT.keep [0, 4, 5, 6, 69] (S' := [(0, .string a0), (4, .string (sx a0 1 (wi64 ((a0.size : Int) - 1)))), (5, .slice A12 x11.length cp13), (6, .int .i64 (wi64 (x14 + 1))), (69, .bool false)]) (by simp only [hb37]; kernel_rfl) ?_
                        refine OpsT.pures (r := []) [12, 13, 14, 15, 16, 17, 18, 19, 20, 21, 22, 23, 24, 25, 26] [0, 4, 5, 6, 84] (S' := [(0, .string a0), (4, .string (sx a0 1 (wi64 ((a0.size : Int) - 1)))), (5, .slice A12 x11.length cp13), (6, .int .i64 (wi64 (x14 + 1))), (84, .bool false)]) (by kernel_rfl) ?_
                        refine OpsT.done ?_
                        have e := someS h3
                        subst e
                        exact Qn.thenJ fun a ha => ⟨false, rfl, ha.keep [0, 4, 5, 6, 84] (by kernel_rfl), hI⟩
                    · rw [if_neg hb36] at h3
                      have hb36 : ((bt (sx a0 1 (wi64 ((a0.size : Int) - 1))) (wi64 (x14 + 1))) == 120) = false := by simpa using hb36
                      refine OpsT.keep [0, 4, 5, 6, 62] (S' := [(0, .string a0), (4, .string (sx a0 1 (wi64 ((a0.size : Int) - 1)))), (5, .slice A12 x11.length cp13), (6, .int .i64 (wi64 (x14 + 1))), (62, .bool false)]) (by simp only [hb36]; kernel_rfl) ?_
                      refine OpsT.pures (r := []) [5, 6, 7, 8, 9, 10, 11, 12, 13, 14, 15, 16, 17, 18, 19, 20, 21, 22, 23, 24, 25, 26] [0, 4, 5, 6, 84] (S' := [(0, .string a0), (4, .string (sx a0 1 (wi64 ((a0.size : Int) - 1)))), (5, .slice A12 x11.length cp13), (6, .int .i64 (wi64 (x14 + 1))), (84, .bool false)]) (by kernel_rfl) ?_
                      refine OpsT.done ?_
                      have e := someS h3
                      subst e
                      exact Qn.thenJ fun a ha => ⟨false, rfl, ha.keep [0, 4, 5, 6, 84] (by kernel_rfl), hI⟩
                  ·
                    rintro a w ⟨x34, rfl, ha, hI⟩
                    try dsimp only at h2
                    refine CodT.of ?_ ha
                    by_cases hb45 : x34 = true
                    · rw [if_pos hb45] at h2
                      refine CodT.yes' (b := x34) (by kernel_rfl) hb45 ?_
                      refine CodT.seq ?_
                      refine CodT.drawI (n := 17) [15] (by kernel_rfl) (by kernel_rfl) hI ?_
                      intro w hI
                      refine GmT.p' 0 85 (.slice A12 x11.length cp13) (by kernel_rfl) (by kernel_rfl) ?_
                      refine GmT.p' 1 86 (.string (sx a0 1 (wi64 ((a0.size : Int) - 1)))) (by kernel_rfl) (by kernel_rfl) ?_
                      refine GmT.p' 2 87 (.int .i64 (wi64 (x14 + 1))) (by kernel_rfl) (by kernel_rfl) ?_
                      refine GmT.p' 3 88 (.int .i64 (wi64 ((wi64 (x14 + 1)) + 1))) (by kernel_rfl) (by kernel_rfl) ?_
                      refine GmT.p' 7 92 (.string (sx a0 1 (wi64 ((a0.size : Int) - 1)))) (by kernel_rfl) (by kernel_rfl) ?_
                      refine GmT.p' 8 93 (.int .i64 (wi64 (x14 + 1))) (by kernel_rfl) (by kernel_rfl) ?_
                      refine GmT.p' 9 94 (.int .i64 (wi64 ((wi64 (x14 + 1)) + 2))) (by kernel_rfl) (by kernel_rfl) ?_
                      obtain ⟨hg46, h2⟩ := guardS h2
                      refine GmT.r (i := 4) 4 (by kernel_rfl) (by kernel_rfl) (Yl.indexStr (d := 89) (T := 9) (k := .i64) (j := wi64 ((wi64 (x14 + 1)) + 1)) (s := sx a0 1 (wi64 ((a0.size : Int) - 1))) (by kernel_rfl) Go.Proofs.Tryd.underlying9 hg46.1 hg46.2) hI ?_
                      obtain ⟨hg47, h2⟩ := guardS h2
                      refine GmT.r (i := 10) 3 (by kernel_rfl) (by kernel_rfl) (Yl.indexStr (d := 95) (T := 9) (k := .i64) (j := wi64 ((wi64 (x14 + 1)) + 2)) (s := sx a0 1 (wi64 ((a0.size : Int) - 1))) (by kernel_rfl) Go.Proofs.Tryd.underlying9 hg47.1 hg47.2) hI ?_
                      obtain ⟨y49, hc48, h2⟩ := bindS h2
                      try dsimp only at h2
                      refine GmT.o (i := 5) (by kernel_rfl) (Does.call (d := some 90) (n := 18) (vs := [.int .u8 (bt (sx a0 1 (wi64 ((a0.size : Int) - 1))) (wi64 ((wi64 (x14 + 1)) + 1)))]) (by kernel_rfl) en18 (c18 w0 w _ _ hI hT (bt (sx a0 1 (wi64 ((a0.size : Int) - 1))) (wi64 ((wi64 (x14 + 1)) + 1))) _ hc48) ?_)
                      rintro e w ⟨rfl, hI⟩
                      refine ⟨_, rfl, ?_⟩
                      refine ⟨fun _ _ => hI, ?_⟩
                      refine GmT.p' 6 91 (.int .i64 (wi64 (y49 * 16))) (by kernel_rfl) (by kernel_rfl) ?_
                      obtain ⟨y51, hc50, h2⟩ := bindS h2
                      try dsimp only at h2
                      refine GmT.o (i := 11) (by kernel_rfl) (Does.call (d := some 96) (n := 18) (vs := [.int .u8 (bt (sx a0 1 (wi64 ((a0.size : Int) - 1))) (wi64 ((wi64 (x14 + 1)) + 2)))]) (by kernel_rfl) en18 (c18 w0 w _ _ hI hT (bt (sx a0 1 (wi64 ((a0.size : Int) - 1))) (wi64 ((wi64 (x14 + 1)) + 2))) _ hc50) ?_)
                      rintro e w ⟨rfl, hI⟩
                      refine ⟨_, rfl, ?_⟩
                      refine ⟨fun _ _ => hI, ?_⟩
                      refine GmT.p' 12 97 (.int .i64 (wi64 ((wi64 (y49 * 16)) + y51))) (by kernel_rfl) (by kernel_rfl) ?_
                      refine GmT.p' 13 98 (.int .u8 (wu8 (wi64 ((wi64 (y49 * 16)) + y51)))) (by kernel_rfl) (by kernel_rfl) ?_
                      refine GmT.o (i := 14) (by kernel_rfl) (Does.buildSlice (en := (cI .u8)) (d := 99) (n := 1) (T := 31) (ps := [(0, .int .u8 (wu8 (wi64 ((wi64 (y49 * 16)) + y51))))]) ([wu8 (wi64 ((wi64 (y49 * 16)) + y51))] : List Int) (by kernel_rfl) Go.Proofs.Tryd.underlying31 ty5 (by kernel_rfl) (by kernel_rfl) (by kernel_rfl) (by kernel_rfl) (len_all (fun _ => rfl)) hI ?_)
                      intro b52 w hI
                      have hC := hI
                      have hC := hC.drop
                      refine ⟨fun _ _ => hC, ?_⟩
                      obtain ⟨hg53, h2⟩ := guardS h2
                      have hI := hI.mono (pick2 _ _ _)
                      refine GmT.o (i := 15) (by kernel_rfl) (Does.append (d := 100) (t := 31) (tx := 31) (ty := 31) (ys := x11) (zs := ([wu8 (wi64 ((wi64 (y49 * 16)) + y51))] : List Int)) (x := .slice (some ⟨b52, 0, none⟩) (([wu8 (wi64 ((wi64 (y49 * 16)) + y51))] : List Int).length) 1) (by kernel_rfl) Go.Proofs.Tryd.underlying31 ty5 (by kernel_rfl) hI (src_own Go.Proofs.Tryd.underlying31 (hI.mono (pick2 _ _ _)) (one_flat _ (fun _ => rfl))) (ownS_facts (hI.mono (pick2 _ _ _))).2.2 (by unfold LIM at hg53; omega) hg53 ?_)
                      intro A54 cp55 w hI
                      refine ⟨fun h => absurd h (by decide), ?_⟩
                      refine GmT.p' 16 5 (.slice A54 ((x11 ++ ([wu8 (wi64 ((wi64 (y49 * 16)) + y51))] : List Int)).length) cp55) (by kernel_rfl) (by kernel_rfl) ?_
                      refine GmT.done (by kernel_rfl) ?_
                      refine Qn.then ?_
                      refine CodT.regionL [0, 1, 2] (by kernel_rfl) ?_
                      refine OpsT.pures (r := []) [0, 1, 2] [0, 4, 5, 6] (S' := [(0, .string a0), (4, .string (sx a0 1 (wi64 ((a0.size : Int) - 1)))), (5, .slice A54 ((x11 ++ ([wu8 (wi64 ((wi64 (y49 * 16)) + y51))] : List Int)).length) cp55), (6, .int .i64 (wi64 ((wi64 (x14 + 1)) + 2)))]) (by kernel_rfl) ?_
                      refine OpsT.done ?_
                      refine Qn.block_normal ?_
                      have hI := hI.mono (pick2 _ _ _)
                      have hI := hI.drop
                      have e := someS h2
                      subst e
                      exact Qn.thenJ fun a ha => ⟨x11 ++ ([wu8 (wi64 ((wi64 (y49 * 16)) + y51))] : List Int), wi64 ((wi64 (x14 + 1)) + 2), A54, cp55, rfl, ha.keep [0, 4, 5, 6] (by kernel_rfl), hI⟩
                    · rw [if_neg hb45] at h2
                      refine CodT.no' (b := x34) (by kernel_rfl) (by simpa using hb45) ?_
                      refine CodT.regionL [0, 1, 2, 3, 4, 5, 6] (by kernel_rfl) ?_
                      refine OpsT.pures (r := [3, 4, 5, 6]) [0, 1, 2] [0, 4, 6, 103, 104, 105] (S' := [(0, .string a0), (4, .string (sx a0 1 (wi64 ((a0.size : Int) - 1)))), (6, .int .i64 (wi64 (x14 + 1))), (103, .slice A12 x11.length cp13), (104, .string (sx a0 1 (wi64 ((a0.size : Int) - 1)))), (105, .int .i64 (wi64 (x14 + 1)))]) (by kernel_rfl) ?_
                      obtain ⟨hg56, h2⟩ := guardS h2
                      refine OpsT.cons (Does.yi (Yl.indexStr (d := 106) (T := 9) (k := .i64) (j := wi64 (x14 + 1)) (s := sx a0 1 (wi64 ((a0.size : Int) - 1))) (by kernel_rfl) Go.Proofs.Tryd.underlying9 hg56.1 hg56.2) hI ?_)
                      refine OpsT.cons (Does.buildSlice (en := (cI .u8)) (d := 107) (n := 1) (T := 31) (ps := [(0, .int .u8 (bt (sx a0 1 (wi64 ((a0.size : Int) - 1))) (wi64 (x14 + 1))))]) ([bt (sx a0 1 (wi64 ((a0.size : Int) - 1))) (wi64 (x14 + 1))] : List Int) (by kernel_rfl) Go.Proofs.Tryd.underlying31 ty5 (by kernel_rfl) (by kernel_rfl) (by kernel_rfl) (by kernel_rfl) (len_all (fun _ => rfl)) hI ?_)
                      intro b57 w hI
                      obtain ⟨hg58, h2⟩ := guardS h2
                      have hI := hI.mono (pick2 _ _ _)
                      refine OpsT.cons (Does.append (d := 108) (t := 31) (tx := 31) (ty := 31) (ys := x11) (zs := ([bt (sx a0 1 (wi64 ((a0.size : Int) - 1))) (wi64 (x14 + 1))] : List Int)) (x := .slice (some ⟨b57, 0, none⟩) (([bt (sx a0 1 (wi64 ((a0.size : Int) - 1))) (wi64 (x14 + 1))] : List Int).length) 1) (by kernel_rfl) Go.Proofs.Tryd.underlying31 ty5 (by kernel_rfl) hI (src_own Go.Proofs.Tryd.underlying31 (hI.mono (pick2 _ _ _)) (one_flat _ (fun _ => rfl))) (ownS_facts (hI.mono (pick2 _ _ _))).2.2 (by unfold LIM at hg58; omega) hg58 ?_)
                      intro A59 cp60 w hI
                      refine OpsT.pures (r := []) [6] [0, 4, 5, 6] (S' := [(0, .string a0), (4, .string (sx a0 1 (wi64 ((a0.size : Int) - 1)))), (5, .slice A59 ((x11 ++ ([bt (sx a0 1 (wi64 ((a0.size : Int) - 1))) (wi64 (x14 + 1))] : List Int)).length) cp60), (6, .int .i64 (wi64 (x14 + 1)))]) (by kernel_rfl) ?_
                      refine OpsT.done ?_
                      refine Qn.block_normal ?_
                      have hI := hI.mono (pick2 _ _ _)
                      have hI := hI.drop
                      have e := someS h2
                      subst e
                      exact Qn.thenJ fun a ha => ⟨x11 ++ ([bt (sx a0 1 (wi64 ((a0.size : Int) - 1))) (wi64 (x14 + 1))] : List Int), wi64 (x14 + 1), A59, cp60, rfl, ha.keep [0, 4, 5, 6] (by kernel_rfl), hI⟩
          ·
            rintro a w ⟨x16, x19, A17, cp18, rfl, ha, hI⟩
            try dsimp only at h1
            refine CodT.of ?_ ha
            refine CodT.regionL [0, 1, 2] (by kernel_rfl) ?_
            refine OpsT.pures (r := []) [0, 1, 2] [0, 4, 5, 6] (S' := [(0, .string a0), (4, .string (sx a0 1 (wi64 ((a0.size : Int) - 1)))), (5, .slice A17 x16.length cp18), (6, .int .i64 (wi64 (x19 + 1)))]) (by kernel_rfl) ?_
            refine OpsT.done ?_
            exact Qn.thenJ fun a ha => ⟨k, Nat.lt_succ_self k, x16, wi64 (x19 + 1), A17, cp18, h1, ha.keep [0, 4, 5, 6] (by kernel_rfl), hI⟩
        · rw [if_neg hb15] at h1
          refine CodT.no' (b := decide (x14 < ((sx a0 1 (wi64 ((a0.size : Int) - 1))).size : Int))) (by kernel_rfl) (by simpa using hb15) ?_
          refine CodT.exit ?_
          refine Qn.exit_then ?_
          refine Qn.exit_then ?_
          refine Qn.block ?_
          have e := someS h1
          subst e
          exact Qn.thenJ fun a ha => ⟨x11, A12, cp13, rfl, ha.keep [0, 5] (by kernel_rfl), hI⟩
      ·
        rintro a w ⟨x8, A9, cp10, rfl, ha, hI⟩
        try dsimp only at h0
        refine Qn.of ?_ ha
        refine Qn.then ?_
        refine CodT.seq ?_
        refine CodT.seq ?_
        refine CodT.regionL [0, 1, 2, 3, 4] (by kernel_rfl) ?_
        refine OpsT.pures (r := [1, 2, 3, 4]) [0] [0, 5, 109] (S' := [(0, .string a0), (5, .slice A9 x8.length cp10), (109, .slice A9 x8.length cp10)]) (by kernel_rfl) ?_
        refine OpsT.cons (Does.b2sOwn (d := 110) (src := 31) (dst := 9) (xs := x8) (by kernel_rfl) Go.Proofs.Tryd.underlying31 Go.Proofs.Tryd.underlying5 Go.Proofs.Tryd.underlying9 hI ?_)
        obtain ⟨y62, hc61, h0⟩ := bindS h0
        try dsimp only at h0
        refine OpsT.cons (Does.call (d := some 111) (n := 13) (vs := [.string (strOfNums x8)]) (by kernel_rfl) en13 (c13 w0 w _ _ hI hT (strOfNums x8) _ hc61) ?_)
        rintro e w ⟨rfl, hI⟩
        refine ⟨_, rfl, ?_⟩
        refine OpsT.pures (r := []) [3, 4] [5, 113] (S' := [(5, .slice A9 x8.length cp10), (113, .bool (!(seq y62 a0)))]) (by kernel_rfl) ?_
        refine OpsT.done ?_
        refine Qn.then ?_
        by_cases hb63 : (!(seq y62 a0)) = true
        · rw [if_pos hb63] at h0
          refine CodT.yes' (b := !(seq y62 a0)) (by kernel_rfl) hb63 ?_
          refine CodT.seq ?_
          refine CodT.regionL [0, 1] (by kernel_rfl) ?_
          refine OpsT.pures (r := []) [0, 1] [2, 3] (S' := [(2, .string (⟨#[]⟩ : ByteArray)), (3, .bool false)]) (by kernel_rfl) ?_
          refine OpsT.done ?_
          refine Qn.then ?_
          refine CodT.ret ?_
          refine Qn.ret_then ?_
          have hI := hI.drop
          have e := someS h0
          subst e
          refine Qn.keep [2, 3] (S' := [(2, .string (⟨#[]⟩ : ByteArray)), (3, .bool false)]) (by kernel_rfl) ?_
          exact post_ret (v := .tuple #[.string (⟨#[]⟩ : ByteArray), .bool false]) (fun a ha => RunRes.run (vs := [.string (⟨#[]⟩ : ByteArray), .bool false]) (.tmp (t := 2) (by kernel_rfl) (.tmp (t := 3) (by kernel_rfl) .nil)) ha (by kernel_rfl)) ⟨rfl, hI⟩
        · rw [if_neg hb63] at h0
          refine CodT.no' (b := !(seq y62 a0)) (by kernel_rfl) (by simpa using hb63) ?_
          refine CodT.skip ?_
          refine Qn.then ?_
          refine CodT.seq ?_
          refine CodT.regionL [0, 1, 2, 3] (by kernel_rfl) ?_
          refine OpsT.pures (r := [1, 2, 3]) [0] [114] (S' := [(114, .slice A9 x8.length cp10)]) (by kernel_rfl) ?_
          refine OpsT.cons (Does.b2sOwn (d := 115) (src := 31) (dst := 9) (xs := x8) (by kernel_rfl) Go.Proofs.Tryd.underlying31 Go.Proofs.Tryd.underlying5 Go.Proofs.Tryd.underlying9 hI ?_)
          refine OpsT.pures (r := []) [2, 3] [2, 3] (S' := [(2, .string (strOfNums x8)), (3, .bool true)]) (by kernel_rfl) ?_
          refine OpsT.done ?_
          refine Qn.then ?_
          refine CodT.ret ?_
          have hI := hI.drop
          have e := someS h0
          subst e
          refine Qn.keep [2, 3] (S' := [(2, .string (strOfNums x8)), (3, .bool true)]) (by kernel_rfl) ?_
          exact post_ret (v := .tuple #[.string (strOfNums x8), .bool true]) (fun a ha => RunRes.run (vs := [.string (strOfNums x8), .bool true]) (.tmp (t := 2) (by kernel_rfl) (.tmp (t := 3) (by kernel_rfl) .nil)) ha (by kernel_rfl)) ⟨rfl, hI⟩
set_option maxRecDepth 100000 in
set_option maxHeartbeats 4000000 in
/-- cenotaph/cenotaphref03.Runes -/
theorem c11 (w0 w : World) (Z : Hp) (A : HP) (hI : Inv w0 Z w A) (hT : Tabs Z) (a0 : ByteArray) (r : (List Int)) (h0 : ref03_Runes a0 = some r) :
    Calls prog 11 #[.string a0] w (fun e w' => ∃ (A1 : Option Addr) (c1 : Nat), e = .returned (.slice A1 r.length c1) ∧ Inv w0 Z w' (star (ownS 3 (cI .i64) 1 A1 c1 r) A)) := by
  have e4 := calls_intro (R := (fun e w' => ∃ (A1 : Option Addr) (c1 : Nat), e = .returned (.slice A1 r.length c1) ∧ Inv w0 Z w' (star (ownS 3 (cI .i64) 1 A1 c1 r) A))) (w := w) (args := [.string a0]) (fn := Go.Proofs.Tryd.f11) 33 Go.Proofs.Tryd.func11 (by rfl) Go.Proofs.Tryd.ntmps11 (by kernel_rfl)
  refine e4 ?_
  clear e4
  unfold ref03_Runes at h0
  refine CodT.seq ?_
  refine CodT.regionL [0] (by kernel_rfl) ?_
  refine OpsT.pures (r := []) [0] [0] (S' := [(0, .string a0)]) (by kernel_rfl) ?_
  refine OpsT.done ?_
  refine Qn.then ?_
  refine CodT.seq ?_
  refine CodT.regionL [0] (by kernel_rfl) ?_
  refine OpsT.pures (r := []) [0] [0, 3] (S' := [(0, .string a0), (3, .slice none 0 0)]) (by kernel_rfl) ?_
  refine OpsT.done ?_
  refine Qn.then ?_
  refine CodT.seq ?_
  refine CodT.seq ?_
  refine CodT.regionL [0] (by kernel_rfl) ?_
  refine OpsT.pures (r := []) [0] [0, 3, 4] (S' := [(0, .string a0), (3, .slice none 0 0), (4, .int .i64 0)]) (by kernel_rfl) ?_
  refine OpsT.done ?_
  refine Qn.then ?_
  obtain ⟨r1, h1, h0⟩ := bindS h0
  refine CodT.meet1 (fun a w => ∃ (x1 : (List Int)) (A2 : Option Addr) (cp3 : Nat), x1 = r1 ∧ Fr 33 [(3, .slice A2 x1.length cp3)] a ∧ Inv w0 Z w (star (ownS 3 (cI .i64) 1 A2 cp3 x1) A)) ?_ ?_
  ·
    refine CodT.block ?_
    have hI := ownS_nil (α := Int) hI 3 (cI .i64) 1
    refine (fun a ha => wp_loopN (fun k a w => ∃ (x4 : (List Int)) (x7 : Int) (A5 : Option Addr) (cp6 : Nat), ref03_Runes.l0 a0 k x4 x7 = some r1 ∧ Fr 33 [(0, .string a0), (3, .slice A5 x4.length cp6), (4, .int .i64 x7)] a ∧ Inv w0 Z w (star (ownS 3 (cI .i64) 1 A5 cp6 x4) A)) ?_ FU a w ⟨([] : List Int), 0, none, 0, h1, ha.keep [0, 3, 4] (by kernel_rfl), hI⟩)
    clear h1 hI
    rintro k a w ⟨x4, x7, A5, cp6, h1, ha, hI⟩
    rcases k with _ | k
    · cases h1
    simp only [ref03_Runes.l0] at h1
    refine CodT.of ?_ ha
    refine CodT.seq ?_
    refine CodT.seq ?_
    refine CodT.regionL [0, 1, 2, 3] (by kernel_rfl) ?_
    refine OpsT.pures (r := []) [0, 1, 2, 3] [0, 3, 4, 10] (S' := [(0, .string a0), (3, .slice A5 x4.length cp6), (4, .int .i64 x7), (10, .bool (decide (x7 < (a0.size : Int))))]) (by kernel_rfl) ?_
    refine OpsT.done ?_
    refine Qn.then ?_
    by_cases hb8 : (decide (x7 < (a0.size : Int))) = true
    · rw [if_pos hb8] at h1
      refine CodT.yes' (b := decide (x7 < (a0.size : Int))) (by kernel_rfl) hb8 ?_
      refine CodT.skip ?_
      refine Qn.then ?_
      refine CodT.block ?_
      refine CodT.seq ?_
      refine CodT.regionL [0, 1, 2, 3, 4, 5, 6, 7, 8] (by kernel_rfl) ?_
      refine OpsT.pures (r := [2, 3, 4, 5, 6, 7, 8]) [0, 1] [0, 3, 4, 12, 13] (S' := [(0, .string a0), (3, .slice A5 x4.length cp6), (4, .int .i64 x7), (12, .string a0), (13, .int .i64 x7)]) (by kernel_rfl) ?_
      obtain ⟨hg9, h1⟩ := guardS h1
      refine OpsT.cons (Does.yi (Yl.sliceStr10 (d := 14) (T := 9) (s := a0) (lo := x7) (by kernel_rfl) Go.Proofs.Tryd.underlying9 hg9) hI ?_)
      obtain ⟨⟨y11, y12⟩, hc10, h1⟩ := bindS h1
      try dsimp only at h1
      refine OpsT.cons (Does.call (d := some 15) (n := 21) (vs := [.string (sx a0 x7 (a0.size : Int))]) (by kernel_rfl) en21 (c21 w0 w _ _ hI hT (sx a0 x7 (a0.size : Int)) _ hc10) ?_)
      rintro e w ⟨rfl, hI⟩
      refine ⟨_, rfl, ?_⟩
      refine OpsT.pures (r := []) [4, 5, 6, 7, 8] [0, 3, 4, 5, 6] (S' := [(0, .string a0), (3, .slice A5 x4.length cp6), (4, .int .i64 x7), (5, .int .i64 y11), (6, .int .i64 y12)]) (by kernel_rfl) ?_
      refine OpsT.done ?_
      refine Qn.then ?_
      obtain ⟨r2, h2, h1⟩ := bindS h1
      refine CodT.meet (fun a w => ∃ (x13 : Int), x13 = r2 ∧ Fr 33 [(0, .string a0), (3, .slice A5 x4.length cp6), (4, .int .i64 x7), (5, .int .i64 x13), (6, .int .i64 y12)] a ∧ Inv w0 Z w (star (ownS 3 (cI .i64) 1 A5 cp6 x4) A)) ?_ ?_
      ·
        refine CodT.seq ?_
        refine CodT.regionL [0, 1] (by kernel_rfl) ?_
        refine OpsT.pures (r := []) [0, 1] [0, 3, 4, 5, 6, 19] (S' := [(0, .string a0), (3, .slice A5 x4.length cp6), (4, .int .i64 x7), (5, .int .i64 y11), (6, .int .i64 y12), (19, .bool (decide (y11 < 0)))]) (by kernel_rfl) ?_
        refine OpsT.done ?_
        refine Qn.then ?_
        by_cases hb14 : (decide (y11 < 0)) = true
        · rw [if_pos hb14] at h2
          refine CodT.yes' (b := decide (y11 < 0)) (by kernel_rfl) hb14 ?_
          refine CodT.regionL [0, 1, 2, 3, 4, 5] (by kernel_rfl) ?_
          refine OpsT.pures (r := [2, 3, 4, 5]) [0, 1] [0, 3, 4, 6, 20, 21] (S' := [(0, .string a0), (3, .slice A5 x4.length cp6), (4, .int .i64 x7), (6, .int .i64 y12), (20, .string a0), (21, .int .i64 x7)]) (by kernel_rfl) ?_
          obtain ⟨hg15, h2⟩ := guardS h2
          refine OpsT.cons (Does.yi (Yl.indexStr (d := 22) (T := 9) (k := .i64) (j := x7) (s := a0) (by kernel_rfl) Go.Proofs.Tryd.underlying9 hg15.1 hg15.2) hI ?_)
          refine OpsT.pures (r := []) [3, 4, 5] [0, 3, 4, 5, 6] (S' := [(0, .string a0), (3, .slice A5 x4.length cp6), (4, .int .i64 x7), (5, .int .i64 (wi64 (1114112 + (wi64 (bt a0 x7))))), (6, .int .i64 y12)]) (by kernel_rfl) ?_
          refine OpsT.done ?_
          have e := someS h2
          subst e
          exact Qn.thenJ fun a ha => ⟨wi64 (1114112 + (wi64 (bt a0 x7))), rfl, ha.keep [0, 3, 4, 5, 6] (by kernel_rfl), hI⟩
        · rw [if_neg hb14] at h2
          refine CodT.no' (b := decide (y11 < 0)) (by kernel_rfl) (by simpa using hb14) ?_
          refine CodT.skip ?_
          have e := someS h2
          subst e
          exact Qn.thenJ fun a ha => ⟨y11, rfl, ha.keep [0, 3, 4, 5, 6] (by kernel_rfl), hI⟩
      ·
        rintro a w ⟨x13, rfl, ha, hI⟩
        try dsimp only at h1
        refine CodT.of ?_ ha
        refine CodT.seq ?_
        refine CodT.regionL [0, 1, 2, 3, 4] (by kernel_rfl) ?_
        refine OpsT.pures (r := [2, 3, 4]) [0, 1] [0, 4, 6, 25, 26] (S' := [(0, .string a0), (4, .int .i64 x7), (6, .int .i64 y12), (25, .slice A5 x4.length cp6), (26, .int .i64 x13)]) (by kernel_rfl) ?_
        refine OpsT.cons (Does.buildSlice (en := (cI .i64)) (d := 27) (n := 1) (T := 28) (ps := [(0, .int .i64 x13)]) ([x13] : List Int) (by kernel_rfl) Go.Proofs.Tryd.underlying28 ty3 (by kernel_rfl) (by kernel_rfl) (by kernel_rfl) (by kernel_rfl) (len_all (fun _ => rfl)) hI ?_)
        intro b16 w hI
        obtain ⟨hg17, h1⟩ := guardS h1
        have hI := hI.mono (pick2 _ _ _)
        refine OpsT.cons (Does.append (d := 28) (t := 28) (tx := 28) (ty := 28) (ys := x4) (zs := ([x13] : List Int)) (x := .slice (some ⟨b16, 0, none⟩) (([x13] : List Int).length) 1) (by kernel_rfl) Go.Proofs.Tryd.underlying28 ty3 (by kernel_rfl) hI (src_own Go.Proofs.Tryd.underlying28 (hI.mono (pick2 _ _ _)) (one_flat _ (fun _ => rfl))) (ownS_facts (hI.mono (pick2 _ _ _))).2.2 (by unfold LIM at hg17; omega) hg17 ?_)
        intro A18 cp19 w hI
        refine OpsT.pures (r := []) [4] [0, 3, 4, 6] (S' := [(0, .string a0), (3, .slice A18 ((x4 ++ ([x13] : List Int)).length) cp19), (4, .int .i64 x7), (6, .int .i64 y12)]) (by kernel_rfl) ?_
        refine OpsT.done ?_
        refine Qn.then ?_
        refine CodT.regionL [0, 1, 2, 3] (by kernel_rfl) ?_
        refine OpsT.pures (r := []) [0, 1, 2, 3] [0, 3, 4] (S' := [(0, .string a0), (3, .slice A18 ((x4 ++ ([x13] : List Int)).length) cp19), (4, .int .i64 (wi64 (x7 + y12)))]) (by kernel_rfl) ?_
        refine OpsT.done ?_
        refine Qn.block_normal ?_
        have hI := hI.mono (pick2 _ _ _)
        have hI := hI.drop
        exact Qn.thenJ fun a ha => ⟨k, Nat.lt_succ_self k, x4 ++ ([x13] : List Int), wi64 (x7 + y12), A18, cp19, h1, ha.keep [0, 3, 4] (by kernel_rfl), hI⟩
    · rw [if_neg hb8] at h1
      refine CodT.no' (b := decide (x7 < (a0.size : Int))) (by kernel_rfl) (by simpa using hb8) ?_
      refine CodT.exit ?_
      refine Qn.exit_then ?_
      refine Qn.exit_then ?_
      refine Qn.block ?_
      have e := someS h1
      subst e
      exact Qn.thenJ fun a ha => ⟨x4, A5, cp6, rfl, ha.keep [3] (by kernel_rfl), hI⟩
  ·
    rintro a w ⟨x1, A2, cp3, rfl, ha, hI⟩
    try dsimp only at h0
    refine Qn.of ?_ ha
    refine Qn.then ?_
    refine CodT.seq ?_
    refine CodT.regionL [0, 1] (by kernel_rfl) ?_
    refine OpsT.pures (r := []) [0, 1] [2] (S' := [(2, .slice A2 x1.length cp3)]) (by kernel_rfl) ?_
    refine OpsT.done ?_
    refine Qn.then ?_
    refine CodT.ret ?_
    have e := someS h0
    subst e
    refine Qn.keep [2] (S' := [(2, .slice A2 x1.length cp3)]) (by kernel_rfl) ?_
    exact post_ret (v := .slice A2 x1.length cp3) (fun a ha => RunRes.run (vs := [.slice A2 x1.length cp3]) (.tmp (t := 2) (by kernel_rfl) .nil) ha (by kernel_rfl)) ⟨A2, cp3, rfl, hI⟩
set_option maxRecDepth 100000 in
set_option maxHeartbeats 4000000 in
/-- cenotaph/cenotaphref03.Valid -/
theorem c7 (w0 w : World) (Z : Hp) (A : HP) (hI : Inv w0 Z w A) (hT : Tabs Z) (a0 : ByteArray) (r : Bool) (h0 : ref03_Valid a0 = some r) :
    Calls prog 7 #[.string a0] w (fun e w' => e = .returned (.bool r) ∧ Inv w0 Z w' A) := by
  have e4 := calls_intro (R := (fun e w' => e = .returned (.bool r) ∧ Inv w0 Z w' A)) (w := w) (args := [.string a0]) (fn := Go.Proofs.Tryd.f7) 63 Go.Proofs.Tryd.func7 (by rfl) Go.Proofs.Tryd.ntmps7 (by kernel_rfl)
  refine e4 ?_
  clear e4
  unfold ref03_Valid at h0
  refine CodT.seq ?_
  refine CodT.regionL [0] (by kernel_rfl) ?_
  refine OpsT.pures (r := []) [0] [0] (S' := [(0, .string a0)]) (by kernel_rfl) ?_
  refine OpsT.done ?_
  refine Qn.then ?_
  refine CodT.seq ?_
  refine CodT.regionL [0, 1, 2] (by kernel_rfl) ?_
  refine OpsT.pures (r := [1, 2]) [0] [6] (S' := [(6, .string a0)]) (by kernel_rfl) ?_
  obtain ⟨y2, hc1, h0⟩ := bindS h0
  try dsimp only at h0
  refine OpsT.cons (Does.call (d := some 7) (n := 11) (vs := [.string a0]) (by kernel_rfl) en11 (c11 w0 w _ _ hI hT a0 _ hc1) ?_)
  rintro e w ⟨A3, cp4, rfl, hI⟩
  refine ⟨_, rfl, ?_⟩
  refine OpsT.pures (r := []) [2] [3] (S' := [(3, .slice A3 y2.length cp4)]) (by kernel_rfl) ?_
  refine OpsT.done ?_
  refine Qn.then ?_
  refine CodT.seq ?_
  obtain ⟨r1, h1, h0⟩ := bindS h0
  refine CodT.meet (fun a w => ∃ (x5 : Bool), x5 = r1 ∧ Fr 63 [(3, .slice A3 y2.length cp4), (30, .bool x5)] a ∧ Inv w0 Z w (star (ownS 3 (cI .i64) 1 A3 cp4 y2) A)) ?_ ?_
  ·
    refine CodT.regionL [0, 1, 2, 3, 4, 5, 6, 7, 8, 9, 10, 11, 12, 13, 14, 15, 16, 17, 18, 19, 20, 21, 22] (by kernel_rfl) ?_
    refine OpsT.pures (r := [4, 5, 6, 7, 8, 9, 10, 11, 12, 13, 14, 15, 16, 17, 18, 19, 20, 21, 22]) [0, 1, 2, 3] [3, 11] (S' := [(3, .slice A3 y2.length cp4), (11, .bool (decide ((y2.length : Int) < 1)))]) (by kernel_rfl) ?_
    by_cases hb6 : (decide ((y2.length : Int) < 1)) = true
    · rw [if_pos hb6] at h1
      refine OpsT.keep [3, 11] (S' := [(3, .slice A3 y2.length cp4), (11, .bool true)]) (by simp only [hb6]; kernel_rfl) ?_
      refine OpsT.pures (r := []) [4, 5, 6, 7, 8, 9, 10, 11, 12, 13, 14, 15, 16, 17, 18, 19, 20, 21, 22] [3, 30] (S' := [(3, .slice A3 y2.length cp4), (30, .bool true)]) (by kernel_rfl) ?_
      refine OpsT.done ?_
      have e := someS h1
      subst e
      exact Qn.thenJ fun a ha => ⟨true, rfl, ha.keep [3, 30] (by kernel_rfl), hI⟩
    · rw [if_neg hb6] at h1
      have hb6 : (decide ((y2.length : Int) < 1)) = false := by simpa using hb6
      refine OpsT.keep [3, 11] (S' := [(3, .slice A3 y2.length cp4), (11, .bool false)]) (by simp only [hb6]; kernel_rfl) ?_
      refine OpsT.pures (r := [9, 10, 11, 12, 13, 14, 15, 16, 17, 18, 19, 20, 21, 22]) [4, 5, 6, 7, 8] [3, 16] (S' := [(3, .slice A3 y2.length cp4), (16, .bool (decide ((y2.length : Int) > 24)))]) (by kernel_rfl) ?_
      by_cases hb7 : (decide ((y2.length : Int) > 24)) = true
      · rw [if_pos hb7] at h1
        refine OpsT.keep [3, 16] (S' := [(3, .slice A3 y2.length cp4), (16, .bool true)]) (by simp only [hb7]; kernel_rfl) ?_
        refine OpsT.pures (r := []) [9, 10, 11, 12, 13, 14, 15, 16, 17, 18, 19, 20, 21, 22] [3, 30] (S' := [(3, .slice A3 y2.length cp4), (30, .bool true)]) (by kernel_rfl) ?_
        refine OpsT.done ?_
        have e := someS h1
        subst e
        exact Qn.thenJ fun a ha => ⟨true, rfl, ha.keep [3, 30] (by kernel_rfl), hI⟩
      · rw [if_neg hb7] at h1
        have hb7 : (decide ((y2.length : Int) > 24)) = false := by simpa using hb7
        refine OpsT.keep [3, 16] (S' := [(3, .slice A3 y2.length cp4), (16, .bool false)]) (by simp only [hb7]; kernel_rfl) ?_
        refine OpsT.pures (r := [10, 11, 12, 13, 14, 15, 16, 17, 18, 19, 20, 21, 22]) [9] [3, 16, 17] (S' := [(3, .slice A3 y2.length cp4), (16, .bool false), (17, .slice A3 y2.length cp4)]) (by kernel_rfl) ?_
        obtain ⟨hg8, h1⟩ := guardS h1
        obtain ⟨g9, hA10, hr11, hl12⟩ := ownS_get hI hg8.1 hg8.2
        refine OpsT.cons (Does.yi (Yl.indexSlice (d := 18) (T := 28) (cc := cp4) (k := .i64) (j := 0) (g := g9) (o := 0) (by kernel_rfl) Go.Proofs.Tryd.underlying28 ty3 hA10 hg8.1 hg8.2) hI ?_)
        refine OpsT.cons (Does.yi (Yl.load (d := 19) (T := 3) (v := .int .i64 (gt y2 0)) (by kernel_rfl) (ldR ty3 (v := .int .i64 (gt y2 0)) 0 (fun w hC => hr11 w0 w _ hC) (by kernel_rfl))) hI ?_)
        refine OpsT.pures (r := [15, 16, 17, 18, 19, 20, 21, 22]) [12, 13, 14] [3, 22] (S' := [(3, .slice A3 y2.length cp4), (22, .bool ((gt y2 0) == 32))]) (by kernel_rfl) ?_
        by_cases hb13 : ((gt y2 0) == 32) = true
        · rw [if_pos hb13] at h1
          refine OpsT.keep [3, 22] (S' := [(3, .slice A3 y2.length cp4), (22, .bool true)]) (by simp only [hb13]; kernel_rfl) ?_
          refine OpsT.pures (r := []) [15, 16, 17, 18, 19, 20, 21, 22] [3, 30] (S' := [(3, .slice A3 y2.length cp4), (30, .bool true)]) (by kernel_rfl) ?_
          refine OpsT.done ?_
          have e := someS h1
          subst e
          exact Qn.thenJ fun a ha => ⟨true, rfl, ha.keep [3, 30] (by kernel_rfl), hI⟩
        · rw [if_neg hb13] at h1
          have hb13 : ((gt y2 0) == 32) = false := by simpa using hb13
          refine OpsT.keep [3, 22] (S' := [(3, .slice A3 y2.length cp4), (22, .bool false)]) (by simp only [hb13]; kernel_rfl) ?_
          refine OpsT.pures (r := [19, 20, 21, 22]) [15, 16, 17, 18] [3, 22, 23, 26] (S' := [(3, .slice A3 y2.length cp4), (22, .bool false), (23, .slice A3 y2.length cp4), (26, .int .i64 (wi64 ((y2.length : Int) - 1)))]) (by kernel_rfl) ?_
          obtain ⟨hg14, h1⟩ := guardS h1
          obtain ⟨g15, hA16, hr17, hl18⟩ := ownS_get hI hg14.1 hg14.2
          refine OpsT.cons (Does.yi (Yl.indexSlice (d := 27) (T := 28) (cc := cp4) (k := .i64) (j := wi64 ((y2.length : Int) - 1)) (g := g15) (o := 0) (by kernel_rfl) Go.Proofs.Tryd.underlying28 ty3 hA16 hg14.1 hg14.2) hI ?_)
          refine OpsT.cons (Does.yi (Yl.load (d := 28) (T := 3) (v := .int .i64 (gt y2 (wi64 ((y2.length : Int) - 1)))) (by kernel_rfl) (ldR ty3 (v := .int .i64 (gt y2 (wi64 ((y2.length : Int) - 1)))) 0 (fun w hC => hr17 w0 w _ hC) (by kernel_rfl))) hI ?_)
          refine OpsT.pures (r := []) [21, 22] [3, 30] (S' := [(3, .slice A3 y2.length cp4), (30, .bool ((gt y2 (wi64 ((y2.length : Int) - 1))) == 32))]) (by kernel_rfl) ?_
          refine OpsT.done ?_
          have e := someS h1
          subst e
          exact Qn.thenJ fun a ha => ⟨(gt y2 (wi64 ((y2.length : Int) - 1))) == 32, rfl, ha.keep [3, 30] (by kernel_rfl), hI⟩
  ·
    rintro a w ⟨x5, rfl, ha, hI⟩
    try dsimp only at h0
    refine CodT.of ?_ ha
    by_cases hb19 : x5 = true
    · rw [if_pos hb19] at h0
      refine CodT.yes' (b := x5) (by kernel_rfl) hb19 ?_
      refine CodT.seq ?_
      refine CodT.regionL [0] (by kernel_rfl) ?_
      refine OpsT.pures (r := []) [0] [2] (S' := [(2, .bool false)]) (by kernel_rfl) ?_
      refine OpsT.done ?_
      refine Qn.then ?_
      refine CodT.ret ?_
      refine Qn.ret_then ?_
      have hI := hI.drop
      have e := someS h0
      subst e
      refine Qn.keep [2] (S' := [(2, .bool false)]) (by kernel_rfl) ?_
      exact post_ret (v := .bool false) (fun a ha => RunRes.run (vs := [.bool false]) (.tmp (t := 2) (by kernel_rfl) .nil) ha (by kernel_rfl)) ⟨rfl, hI⟩
    · rw [if_neg hb19] at h0
      refine CodT.no' (b := x5) (by kernel_rfl) (by simpa using hb19) ?_
      refine CodT.skip ?_
      refine Qn.then ?_
      refine CodT.seq ?_
      refine CodT.seq ?_
      refine CodT.regionL [0] (by kernel_rfl) ?_
      refine OpsT.pures (r := []) [0] [3, 4] (S' := [(3, .slice A3 y2.length cp4), (4, .int .i64 0)]) (by kernel_rfl) ?_
      refine OpsT.done ?_
      refine Qn.then ?_
      obtain ⟨r1, h1, h0⟩ := bindS h0
      refine CodT.meet1 (fun a w => .inr () = r1 ∧ Fr 63 [] a ∧ Inv w0 Z w A) ?_ ?_
      ·
        refine CodT.block ?_
        refine (fun a ha => wp_loopN (fun k a w => ∃ (x20 : Int), ref03_Valid.l0 y2 k x20 = some r1 ∧ Fr 63 [(3, .slice A3 y2.length cp4), (4, .int .i64 x20)] a ∧ Inv w0 Z w (star (ownS 3 (cI .i64) 1 A3 cp4 y2) A)) ?_ FU a w ⟨0, h1, ha.keep [3, 4] (by kernel_rfl), hI⟩)
        clear h1 hI
        rintro k a w ⟨x20, h1, ha, hI⟩
        rcases k with _ | k
        · cases h1
        simp only [ref03_Valid.l0] at h1
        refine CodT.of ?_ ha
        refine CodT.seq ?_
        refine CodT.seq ?_
        refine CodT.regionL [0, 1, 2, 3] (by kernel_rfl) ?_
        refine OpsT.pures (r := []) [0, 1, 2, 3] [3, 4, 34] (S' := [(3, .slice A3 y2.length cp4), (4, .int .i64 x20), (34, .bool (decide (x20 < (y2.length : Int))))]) (by kernel_rfl) ?_
        refine OpsT.done ?_
        refine Qn.then ?_
        by_cases hb21 : (decide (x20 < (y2.length : Int))) = true
        · rw [if_pos hb21] at h1
          refine CodT.yes' (b := decide (x20 < (y2.length : Int))) (by kernel_rfl) hb21 ?_
          refine CodT.skip ?_
          refine Qn.then ?_
          refine CodT.seq ?_
          refine CodT.block ?_
          refine CodT.seq ?_
          refine CodT.regionL [0, 1, 2, 3, 4] (by kernel_rfl) ?_
          refine OpsT.pures (r := [2, 3, 4]) [0, 1] [3, 4, 37, 38] (S' := [(3, .slice A3 y2.length cp4), (4, .int .i64 x20), (37, .slice A3 y2.length cp4), (38, .int .i64 x20)]) (by kernel_rfl) ?_
          obtain ⟨hg22, h1⟩ := guardS h1
          obtain ⟨g23, hA24, hr25, hl26⟩ := ownS_get hI hg22.1 hg22.2
          refine OpsT.cons (Does.yi (Yl.indexSlice (d := 39) (T := 28) (cc := cp4) (k := .i64) (j := x20) (g := g23) (o := 0) (by kernel_rfl) Go.Proofs.Tryd.underlying28 ty3 hA24 hg22.1 hg22.2) hI ?_)
          refine OpsT.cons (Does.yi (Yl.load (d := 40) (T := 3) (v := .int .i64 (gt y2 x20)) (by kernel_rfl) (ldR ty3 (v := .int .i64 (gt y2 x20)) 0 (fun w hC => hr25 w0 w _ hC) (by kernel_rfl))) hI ?_)
          refine OpsT.pures (r := []) [4] [3, 4, 5] (S' := [(3, .slice A3 y2.length cp4), (4, .int .i64 x20), (5, .int .i64 (gt y2 x20))]) (by kernel_rfl) ?_
          refine OpsT.done ?_
          refine Qn.then ?_
          obtain ⟨r2, h2, h1⟩ := bindS h1
          refine CodT.meet (fun a w => ∃ (x27 : Bool), x27 = r2 ∧ Fr 63 [(3, .slice A3 y2.length cp4), (4, .int .i64 x20), (62, .bool x27)] a ∧ Inv w0 Z w (star (ownS 3 (cI .i64) 1 A3 cp4 y2) A)) ?_ ?_
          ·
            refine CodT.regionL [0, 1, 2, 3, 4, 5, 6, 7, 8, 9, 10, 11, 12, 13, 14, 15, 16, 17, 18, 19, 20, 21] (by kernel_rfl) ?_
            refine OpsT.pures (r := [3, 4, 5, 6, 7, 8, 9, 10, 11, 12, 13, 14, 15, 16, 17, 18, 19, 20, 21]) [0, 1, 2] [3, 4, 5, 43] (S' := [(3, .slice A3 y2.length cp4), (4, .int .i64 x20), (5, .int .i64 (gt y2 x20)), (43, .bool (decide ((gt y2 x20) < 32)))]) (by kernel_rfl) ?_
            by_cases hb28 : (decide ((gt y2 x20) < 32)) = true
            · rw [if_pos hb28] at h2
              refine OpsT.keep [3, 4, 5, 43] (S' := [(3, .slice A3 y2.length cp4), (4, .int .i64 x20), (5, .int .i64 (gt y2 x20)), (43, .bool true)]) (by simp only [hb28]; kernel_rfl) ?_
              refine OpsT.pures (r := []) [3, 4, 5, 6, 7, 8, 9, 10, 11, 12, 13, 14, 15, 16, 17, 18, 19, 20, 21] [3, 4, 62] (S' := [(3, .slice A3 y2.length cp4), (4, .int .i64 x20), (62, .bool true)]) (by kernel_rfl) ?_
              refine OpsT.done ?_
              have e := someS h2
              subst e
              exact Qn.thenJ fun a ha => ⟨true, rfl, ha.keep [3, 4, 62] (by kernel_rfl), hI⟩
            · rw [if_neg hb28] at h2
              have hb28 : (decide ((gt y2 x20) < 32)) = false := by simpa using hb28
              refine OpsT.keep [3, 4, 5, 43] (S' := [(3, .slice A3 y2.length cp4), (4, .int .i64 x20), (5, .int .i64 (gt y2 x20)), (43, .bool false)]) (by simp only [hb28]; kernel_rfl) ?_
              refine OpsT.pures (r := [7, 8, 9, 10, 11, 12, 13, 14, 15, 16, 17, 18, 19, 20, 21]) [3, 4, 5, 6] [3, 4, 5, 47] (S' := [(3, .slice A3 y2.length cp4), (4, .int .i64 x20), (5, .int .i64 (gt y2 x20)), (47, .bool ((gt y2 x20) == 47))]) (by kernel_rfl) ?_
              by_cases hb29 : ((gt y2 x20) == 47) = true
              · rw [if_pos hb29] at h2
                refine OpsT.keep [3, 4, 5, 47] (S' := [(3, .slice A3 y2.length cp4), (4, .int .i64 x20), (5, .int .i64 (gt y2 x20)), (47, .bool true)]) (by simp only [hb29]; kernel_rfl) ?_
                refine OpsT.pures (r := []) [7, 8, 9, 10, 11, 12, 13, 14, 15, 16, 17, 18, 19, 20, 21] [3, 4, 62] (S' := [(3, .slice A3 y2.length cp4), (4, .int .i64 x20), (62, .bool true)]) (by kernel_rfl) ?_
                refine OpsT.done ?_
                have e := someS h2
                subst e
                exact Qn.thenJ fun a ha => ⟨true, rfl, ha.keep [3, 4, 62] (by kernel_rfl), hI⟩
              · rw [if_neg hb29] at h2
                have hb29 : ((gt y2 x20) == 47) = false := by simpa using hb29
                refine OpsT.keep [3, 4, 5, 47] (S' := [(3, .slice A3 y2.length cp4), (4, .int .i64 x20), (5, .int .i64 (gt y2 x20)), (47, .bool false)]) (by simp only [hb29]; kernel_rfl) ?_
                refine OpsT.pures (r := [10, 11, 12, 13, 14, 15, 16, 17, 18, 19, 20, 21]) [7, 8, 9] [3, 4, 5, 47, 50] (S' := [(3, .slice A3 y2.length cp4), (4, .int .i64 x20), (5, .int .i64 (gt y2 x20)), (47, .bool false), (50, .bool (decide ((gt y2 x20) ≥ 127)))]) (by kernel_rfl) ?_
                by_cases hb30 : (decide ((gt y2 x20) ≥ 127)) = true
                · rw [if_pos hb30] at h2
                  refine OpsT.keep [3, 4, 5, 47, 50] (S' := [(3, .slice A3 y2.length cp4), (4, .int .i64 x20), (5, .int .i64 (gt y2 x20)), (47, .bool false), (50, .bool true)]) (by simp only [hb30]; kernel_rfl) ?_
                  refine OpsT.pures (r := [15, 16, 17, 18, 19, 20, 21]) [10, 11, 12, 13, 14] [3, 4, 5, 55] (S' := [(3, .slice A3 y2.length cp4), (4, .int .i64 x20), (5, .int .i64 (gt y2 x20)), (55, .bool (decide ((gt y2 x20) ≤ 159)))]) (by kernel_rfl) ?_
                  by_cases hb31 : (decide ((gt y2 x20) ≤ 159)) = true
                  · rw [if_pos hb31] at h2
                    refine OpsT.keep [3, 4, 5, 55] (S' := [(3, .slice A3 y2.length cp4), (4, .int .i64 x20), (5, .int .i64 (gt y2 x20)), (55, .bool true)]) (by simp only [hb31]; kernel_rfl) ?_
                    refine OpsT.pures (r := []) [15, 16, 17, 18, 19, 20, 21] [3, 4, 62] (S' := [(3, .slice A3 y2.length cp4), (4, .int .i64 x20), (62, .bool true)]) (by kernel_rfl) ?_
                    refine OpsT.done ?_
                    have e := someS h2
                    subst e
                    exact Qn.thenJ fun a ha => ⟨true, rfl, ha.keep [3, 4, 62] (by kernel_rfl), hI⟩
                  · rw [if_neg hb31] at h2
                    have hb31 : (decide ((gt y2 x20) ≤ 159)) = false := by simpa using hb31
                    refine OpsT.keep [3, 4, 5, 55] (S' := [(3, .slice A3 y2.length cp4), (4, .int .i64 x20), (5, .int .i64 (gt y2 x20)), (55, .bool false)]) (by simp only [hb31]; kernel_rfl) ?_
                    refine OpsT.pures (r := [19, 20, 21]) [15, 16, 17, 18] [3, 4, 5, 59] (S' := [(3, .slice A3 y2.length cp4), (4, .int .i64 x20), (5, .int .i64 (gt y2 x20)), (59, .bool ((gt y2 x20) == 65533))]) (by kernel_rfl) ?_
                    by_cases hb32 : ((gt y2 x20) == 65533) = true
                    · rw [if_pos hb32] at h2
                      refine OpsT.keep [3, 4, 5, 59] (S' := [(3, .slice A3 y2.length cp4), (4, .int .i64 x20), (5, .int .i64 (gt y2 x20)), (59, .bool true)]) (by simp only [hb32]; kernel_rfl) ?_
                      refine OpsT.pures (r := []) [19, 20, 21] [3, 4, 62] (S' := [(3, .slice A3 y2.length cp4), (4, .int .i64 x20), (62, .bool true)]) (by kernel_rfl) ?_
                      refine OpsT.done ?_
                      have e := someS h2
                      subst e
                      exact Qn.thenJ fun a ha => ⟨true, rfl, ha.keep [3, 4, 62] (by kernel_rfl), hI⟩
                    · rw [if_neg hb32] at h2
                      have hb32 : ((gt y2 x20) == 65533) = false := by simpa using hb32
                      refine OpsT.keep [3, 4, 5, 59] (S' := [(3, .slice A3 y2.length cp4), (4, .int .i64 x20), (5, .int .i64 (gt y2 x20)), (59, .bool false)]) (by simp only [hb32]; kernel_rfl) ?_
                      refine OpsT.pures (r := []) [19, 20, 21] [3, 4, 62] (S' := [(3, .slice A3 y2.length cp4), (4, .int .i64 x20), (62, .bool (decide ((gt y2 x20) ≥ 1114112)))]) (by kernel_rfl) ?_
                      refine OpsT.done ?_
                      have e := someS h2
                      subst e
                      exact Qn.thenJ fun a ha => ⟨decide ((gt y2 x20) ≥ 1114112), rfl, ha.keep [3, 4, 62] (by kernel_rfl), hI⟩
                · rw [if_neg hb30] at h2
                  have hb30 : (decide ((gt y2 x20) ≥ 127)) = false := by simpa using hb30
                  refine OpsT.keep [3, 4, 5, 47, 50] (S' := [(3, .slice A3 y2.length cp4), (4, .int .i64 x20), (5, .int .i64 (gt y2 x20)), (47, .bool false), (50, .bool false)]) (by simp only [hb30]; kernel_rfl) ?_
                  refine OpsT.pures (r := [19, 20, 21]) [10, 11, 12, 13, 14, 15, 16, 17, 18] [3, 4, 5, 59] (S' := [(3, .slice A3 y2.length cp4), (4, .int .i64 x20), (5, .int .i64 (gt y2 x20)), (59, .bool ((gt y2 x20) == 65533))]) (by kernel_rfl) ?_
                  by_cases hb33 : ((gt y2 x20) == 65533) = true
                  · rw [if_pos hb33] at h2
                    refine OpsT.keep [3, 4, 5, 59] (S' := [(3, .slice A3 y2.length cp4), (4, .int .i64 x20), (5, .int .i64 (gt y2 x20)), (59, .bool true)]) (by simp only [hb33]; kernel_rfl) ?_
                    refine OpsT.pures (r := []) [19, 20, 21] [3, 4, 62] (S' := [(3, .slice A3 y2.length cp4), (4, .int .i64 x20), (62, .bool true)]) (by kernel_rfl) ?_
                    refine OpsT.done ?_
                    have e := someS h2
                    subst e
                    exact Qn.thenJ fun a ha => ⟨true, rfl, ha.keep [3, 4, 62] (by kernel_rfl), hI⟩
                  · rw [if_neg hb33] at h2
                    have hb33 : ((gt y2 x20) == 65533) = false := by simpa using hb33
                    refine OpsT.keep [3, 4, 5, 59] (S' := [(3, .slice A3 y2.length cp4), (4, .int .i64 x20), (5, .int .i64 (gt y2 x20)), (59, .bool false)]) (by simp only [hb33]; kernel_rfl) ?_
                    refine OpsT.pures (r := []) [19, 20, 21] [3, 4, 62] (S' := [(3, .slice A3 y2.length cp4), (4, .int .i64 x20), (62, .bool (decide ((gt y2 x20) ≥ 1114112)))]) (by kernel_rfl) ?_
                    refine OpsT.done ?_
                    have e := someS h2
                    subst e
                    exact Qn.thenJ fun a ha => ⟨decide ((gt y2 x20) ≥ 1114112), rfl, ha.keep [3, 4, 62] (by kernel_rfl), hI⟩
          ·
            rintro a w ⟨x27, rfl, ha, hI⟩
            try dsimp only at h1
            refine CodT.of ?_ ha
            by_cases hb34 : x27 = true
            · rw [if_pos hb34] at h1
              refine CodT.yes' (b := x27) (by kernel_rfl) hb34 ?_
              refine CodT.seq ?_
              refine CodT.regionL [0] (by kernel_rfl) ?_
              refine OpsT.pures (r := []) [0] [2] (S' := [(2, .bool false)]) (by kernel_rfl) ?_
              refine OpsT.done ?_
              refine Qn.then ?_
              refine CodT.ret ?_
              refine Qn.block_ret ?_
              refine Qn.ret_then ?_
              refine Qn.ret_then ?_
              refine Qn.block_ret ?_
              refine Qn.ret_then ?_
              refine Qn.ret_then ?_
              have hI := hI.drop
              have e := someS h1
              subst e
              try dsimp only at h0
              have e := someS h0
              subst e
              refine Qn.keep [2] (S' := [(2, .bool false)]) (by kernel_rfl) ?_
              exact post_ret (v := .bool false) (fun a ha => RunRes.run (vs := [.bool false]) (.tmp (t := 2) (by kernel_rfl) .nil) ha (by kernel_rfl)) ⟨rfl, hI⟩
            · rw [if_neg hb34] at h1
              refine CodT.no' (b := x27) (by kernel_rfl) (by simpa using hb34) ?_
              refine CodT.skip ?_
              refine Qn.block_normal ?_
              refine Qn.then ?_
              refine CodT.regionL [0, 1, 2] (by kernel_rfl) ?_
              refine OpsT.pures (r := []) [0, 1, 2] [3, 4] (S' := [(3, .slice A3 y2.length cp4), (4, .int .i64 (wi64 (x20 + 1)))]) (by kernel_rfl) ?_
              refine OpsT.done ?_
              exact Qn.thenJ fun a ha => ⟨k, Nat.lt_succ_self k, wi64 (x20 + 1), h1, ha.keep [3, 4] (by kernel_rfl), hI⟩
        · rw [if_neg hb21] at h1
          refine CodT.no' (b := decide (x20 < (y2.length : Int))) (by kernel_rfl) (by simpa using hb21) ?_
          refine CodT.exit ?_
          refine Qn.exit_then ?_
          refine Qn.exit_then ?_
          refine Qn.block ?_
          have hI := hI.drop
          have e := someS h1
          subst e
          exact Qn.thenJ fun a ha => ⟨rfl, ha.keep [] (by kernel_rfl), hI⟩
      ·
        rintro a w ⟨rfl, ha, hI⟩
        try dsimp only at h0
        refine Qn.of ?_ ha
        refine Qn.then ?_
        refine CodT.seq ?_
        refine CodT.regionL [0] (by kernel_rfl) ?_
        refine OpsT.pures (r := []) [0] [2] (S' := [(2, .bool true)]) (by kernel_rfl) ?_
        refine OpsT.done ?_
        refine Qn.then ?_
        refine CodT.ret ?_
        have e := someS h0
        subst e
        refine Qn.keep [2] (S' := [(2, .bool true)]) (by kernel_rfl) ?_
        exact post_ret (v := .bool true) (fun a ha => RunRes.run (vs := [.bool true]) (.tmp (t := 2) (by kernel_rfl) .nil) ha (by kernel_rfl)) ⟨rfl, hI⟩
set_option maxRecDepth 100000 in
set_option maxHeartbeats 4000000 in
/-- cenotaph/cenotaphref03.Less -/
theorem c8 (w0 w : World) (Z : Hp) (A : HP) (hI : Inv w0 Z w A) (hT : Tabs Z) (a0 : ByteArray) (a1 : ByteArray) (r : Bool) (h0 : ref03_Less a0 a1 = some r) :
    Calls prog 8 #[.string a0, .string a1] w (fun e w' => e = .returned (.bool r) ∧ Inv w0 Z w' A) := by
  have e4 := calls_intro (R := (fun e w' => e = .returned (.bool r) ∧ Inv w0 Z w' A)) (w := w) (args := [.string a0, .string a1]) (fn := Go.Proofs.Tryd.f8) 47 Go.Proofs.Tryd.func8 (by rfl) Go.Proofs.Tryd.ntmps8 (by kernel_rfl)
  refine e4 ?_
  clear e4
  unfold ref03_Less at h0
  refine CodT.seq ?_
  refine CodT.regionL [0] (by kernel_rfl) ?_
  refine OpsT.pures (r := []) [0] [0, 1] (S' := [(0, .string a0), (1, .string a1)]) (by kernel_rfl) ?_
  refine OpsT.done ?_
  refine Qn.then ?_
  refine CodT.seq ?_
  refine CodT.regionL [0, 1, 2] (by kernel_rfl) ?_
  refine OpsT.pures (r := [1, 2]) [0] [1, 8] (S' := [(1, .string a1), (8, .string a0)]) (by kernel_rfl) ?_
  obtain ⟨y2, hc1, h0⟩ := bindS h0
  try dsimp only at h0
  refine OpsT.cons (Does.call (d := some 9) (n := 11) (vs := [.string a0]) (by kernel_rfl) en11 (c11 w0 w _ _ hI hT a0 _ hc1) ?_)
  rintro e w ⟨A3, cp4, rfl, hI⟩
  refine ⟨_, rfl, ?_⟩
  refine OpsT.pures (r := []) [2] [1, 5] (S' := [(1, .string a1), (5, .slice A3 y2.length cp4)]) (by kernel_rfl) ?_
  refine OpsT.done ?_
  refine Qn.then ?_
  refine CodT.seq ?_
  refine CodT.regionL [0, 1, 2] (by kernel_rfl) ?_
  refine OpsT.pures (r := [1, 2]) [0] [5, 10] (S' := [(5, .slice A3 y2.length cp4), (10, .string a1)]) (by kernel_rfl) ?_
  obtain ⟨y6, hc5, h0⟩ := bindS h0
  try dsimp only at h0
  refine OpsT.cons (Does.call (d := some 11) (n := 11) (vs := [.string a1]) (by kernel_rfl) en11 (c11 w0 w _ _ hI hT a1 _ hc5) ?_)
  rintro e w ⟨A7, cp8, rfl, hI⟩
  refine ⟨_, rfl, ?_⟩
  refine OpsT.pures (r := []) [2] [5, 6] (S' := [(5, .slice A3 y2.length cp4), (6, .slice A7 y6.length cp8)]) (by kernel_rfl) ?_
  refine OpsT.done ?_
  refine Qn.then ?_
  refine CodT.seq ?_
  refine CodT.seq ?_
  refine CodT.regionL [0] (by kernel_rfl) ?_
  refine OpsT.pures (r := []) [0] [5, 6, 7] (S' := [(5, .slice A3 y2.length cp4), (6, .slice A7 y6.length cp8), (7, .int .i64 0)]) (by kernel_rfl) ?_
  refine OpsT.done ?_
  refine Qn.then ?_
  obtain ⟨r1, h1, h0⟩ := bindS h0
  refine CodT.meet1 (fun a w => .inr () = r1 ∧ Fr 47 [(5, .slice A3 y2.length cp4), (6, .slice A7 y6.length cp8)] a ∧ Inv w0 Z w (star (ownS 3 (cI .i64) 1 A7 cp8 y6) (star (ownS 3 (cI .i64) 1 A3 cp4 y2) A))) ?_ ?_
  ·
    refine CodT.block ?_
    refine (fun a ha => wp_loopN (fun k a w => ∃ (x9 : Int), ref03_Less.l0 y2 y6 k x9 = some r1 ∧ Fr 47 [(5, .slice A3 y2.length cp4), (6, .slice A7 y6.length cp8), (7, .int .i64 x9)] a ∧ Inv w0 Z w (star (ownS 3 (cI .i64) 1 A7 cp8 y6) (star (ownS 3 (cI .i64) 1 A3 cp4 y2) A))) ?_ FU a w ⟨0, h1, ha.keep [5, 6, 7] (by kernel_rfl), hI⟩)
    clear h1 hI
    rintro k a w ⟨x9, h1, ha, hI⟩
    rcases k with _ | k
    · cases h1
    simp only [ref03_Less.l0] at h1
    refine CodT.of ?_ ha
    refine CodT.seq ?_
    obtain ⟨r2, h2, h1⟩ := bindS h1
    refine CodT.meet (fun a w => ∃ (x10 : Bool), x10 = r2 ∧ Fr 47 [(5, .slice A3 y2.length cp4), (6, .slice A7 y6.length cp8), (7, .int .i64 x9), (21, .bool x10)] a ∧ Inv w0 Z w (star (ownS 3 (cI .i64) 1 A7 cp8 y6) (star (ownS 3 (cI .i64) 1 A3 cp4 y2) A))) ?_ ?_
    ·
      refine CodT.regionL [0, 1, 2, 3, 4, 5, 6, 7, 8, 9] (by kernel_rfl) ?_
      refine OpsT.pures (r := [5, 6, 7, 8, 9]) [0, 1, 2, 3, 4] [5, 6, 7, 16] (S' := [(5, .slice A3 y2.length cp4), (6, .slice A7 y6.length cp8), (7, .int .i64 x9), (16, .bool (decide (x9 < (y2.length : Int))))]) (by kernel_rfl) ?_
      by_cases hb11 : (decide (x9 < (y2.length : Int))) = true
      · rw [if_pos hb11] at h2
        refine OpsT.keep [5, 6, 7, 16] (S' := [(5, .slice A3 y2.length cp4), (6, .slice A7 y6.length cp8), (7, .int .i64 x9), (16, .bool true)]) (by simp only [hb11]; kernel_rfl) ?_
        refine OpsT.pures (r := []) [5, 6, 7, 8, 9] [5, 6, 7, 21] (S' := [(5, .slice A3 y2.length cp4), (6, .slice A7 y6.length cp8), (7, .int .i64 x9), (21, .bool (decide (x9 < (y6.length : Int))))]) (by kernel_rfl) ?_
        refine OpsT.done ?_
        have e := someS h2
        subst e
        exact Qn.thenJ fun a ha => ⟨decide (x9 < (y6.length : Int)), rfl, ha.keep [5, 6, 7, 21] (by kernel_rfl), hI⟩
      · rw [if_neg hb11] at h2
        have hb11 : (decide (x9 < (y2.length : Int))) = false := by simpa using hb11
        refine OpsT.keep [5, 6, 7, 16] (S' := [(5, .slice A3 y2.length cp4), (6, .slice A7 y6.length cp8), (7, .int .i64 x9), (16, .bool false)]) (by simp only [hb11]; kernel_rfl) ?_
        refine OpsT.pures (r := []) [5, 6, 7, 8, 9] [5, 6, 7, 21] (S' := [(5, .slice A3 y2.length cp4), (6, .slice A7 y6.length cp8), (7, .int .i64 x9), (21, .bool false)]) (by kernel_rfl) ?_
        refine OpsT.done ?_
        have e := someS h2
        subst e
        exact Qn.thenJ fun a ha => ⟨false, rfl, ha.keep [5, 6, 7, 21] (by kernel_rfl), hI⟩
    ·
      rintro a w ⟨x10, rfl, ha, hI⟩
      try dsimp only at h1
      refine CodT.of ?_ ha
      by_cases hb12 : x10 = true
      · rw [if_pos hb12] at h1
        refine CodT.yes' (b := x10) (by kernel_rfl) hb12 ?_
        refine CodT.skip ?_
        refine Qn.then ?_
        refine CodT.seq ?_
        refine CodT.block ?_
        refine CodT.seq ?_
        refine CodT.drawI (n := 9) [] (by kernel_rfl) (by kernel_rfl) hI ?_
        intro w hI
        refine GmT.p' 0 24 (.slice A3 y2.length cp4) (by kernel_rfl) (by kernel_rfl) ?_
        refine GmT.p' 1 25 (.int .i64 x9) (by kernel_rfl) (by kernel_rfl) ?_
        refine GmT.p' 4 28 (.slice A7 y6.length cp8) (by kernel_rfl) (by kernel_rfl) ?_
        refine GmT.p' 5 29 (.int .i64 x9) (by kernel_rfl) (by kernel_rfl) ?_
        obtain ⟨hg13, h1⟩ := guardS h1
        obtain ⟨g14, hA15, hr16, hl17⟩ := ownS_get (hI.mono (pick2 _ _ _)) hg13.1 hg13.2
        refine GmT.r (i := 2) 2 (by kernel_rfl) (by kernel_rfl) (Yl.indexSlice (d := 26) (T := 28) (cc := cp4) (k := .i64) (j := x9) (g := g14) (o := 0) (by kernel_rfl) Go.Proofs.Tryd.underlying28 ty3 hA15 hg13.1 hg13.2) hI ?_
        refine GmT.r (i := 3) 2 (by kernel_rfl) (by kernel_rfl) (Yl.load (d := 27) (T := 3) (v := .int .i64 (gt y2 x9)) (by kernel_rfl) (ldR ty3 (v := .int .i64 (gt y2 x9)) 0 (fun w hC => hr16 w0 w _ (hC.mono (pick2 _ _ _))) (by kernel_rfl))) hI ?_
        obtain ⟨hg18, h1⟩ := guardS h1
        obtain ⟨g19, hA20, hr21, hl22⟩ := ownS_get hI hg18.1 hg18.2
        refine GmT.r (i := 6) 2 (by kernel_rfl) (by kernel_rfl) (Yl.indexSlice (d := 30) (T := 28) (cc := cp8) (k := .i64) (j := x9) (g := g19) (o := 0) (by kernel_rfl) Go.Proofs.Tryd.underlying28 ty3 hA20 hg18.1 hg18.2) hI ?_
        refine GmT.r (i := 7) 2 (by kernel_rfl) (by kernel_rfl) (Yl.load (d := 31) (T := 3) (v := .int .i64 (gt y6 x9)) (by kernel_rfl) (ldR ty3 (v := .int .i64 (gt y6 x9)) 0 (fun w hC => hr21 w0 w _ hC) (by kernel_rfl))) hI ?_
        refine GmT.p' 8 32 (.bool ((gt y2 x9) != (gt y6 x9))) (by kernel_rfl) (by kernel_rfl) ?_
        refine GmT.done (by kernel_rfl) ?_
        refine Qn.then ?_
        by_cases hb23 : ((gt y2 x9) != (gt y6 x9)) = true
        · rw [if_pos hb23] at h1
          refine CodT.yes' (b := (gt y2 x9) != (gt y6 x9)) (by kernel_rfl) hb23 ?_
          refine CodT.seq ?_
          refine CodT.drawI (n := 10) [] (by kernel_rfl) (by kernel_rfl) hI ?_
          intro w hI
          refine GmT.p' 0 33 (.slice A3 y2.length cp4) (by kernel_rfl) (by kernel_rfl) ?_
          refine GmT.p' 1 34 (.int .i64 x9) (by kernel_rfl) (by kernel_rfl) ?_
          refine GmT.p' 4 37 (.slice A7 y6.length cp8) (by kernel_rfl) (by kernel_rfl) ?_
          refine GmT.p' 5 38 (.int .i64 x9) (by kernel_rfl) (by kernel_rfl) ?_
          obtain ⟨hg24, h1⟩ := guardS h1
          obtain ⟨g25, hA26, hr27, hl28⟩ := ownS_get (hI.mono (pick2 _ _ _)) hg24.1 hg24.2
          refine GmT.r (i := 2) 2 (by kernel_rfl) (by kernel_rfl) (Yl.indexSlice (d := 35) (T := 28) (cc := cp4) (k := .i64) (j := x9) (g := g25) (o := 0) (by kernel_rfl) Go.Proofs.Tryd.underlying28 ty3 hA26 hg24.1 hg24.2) hI ?_
          refine GmT.r (i := 3) 2 (by kernel_rfl) (by kernel_rfl) (Yl.load (d := 36) (T := 3) (v := .int .i64 (gt y2 x9)) (by kernel_rfl) (ldR ty3 (v := .int .i64 (gt y2 x9)) 0 (fun w hC => hr27 w0 w _ (hC.mono (pick2 _ _ _))) (by kernel_rfl))) hI ?_
          obtain ⟨hg29, h1⟩ := guardS h1
          obtain ⟨g30, hA31, hr32, hl33⟩ := ownS_get hI hg29.1 hg29.2
          refine GmT.r (i := 6) 2 (by kernel_rfl) (by kernel_rfl) (Yl.indexSlice (d := 39) (T := 28) (cc := cp8) (k := .i64) (j := x9) (g := g30) (o := 0) (by kernel_rfl) Go.Proofs.Tryd.underlying28 ty3 hA31 hg29.1 hg29.2) hI ?_
          refine GmT.r (i := 7) 2 (by kernel_rfl) (by kernel_rfl) (Yl.load (d := 40) (T := 3) (v := .int .i64 (gt y6 x9)) (by kernel_rfl) (ldR ty3 (v := .int .i64 (gt y6 x9)) 0 (fun w hC => hr32 w0 w _ hC) (by kernel_rfl))) hI ?_
          refine GmT.p' 8 41 (.bool (decide ((gt y2 x9) < (gt y6 x9)))) (by kernel_rfl) (by kernel_rfl) ?_
          refine GmT.p' 9 4 (.bool (decide ((gt y2 x9) < (gt y6 x9)))) (by kernel_rfl) (by kernel_rfl) ?_
          refine GmT.done (by kernel_rfl) ?_
          refine Qn.then ?_
          refine CodT.ret ?_
          refine Qn.block_ret ?_
          refine Qn.ret_then ?_
          refine Qn.ret_then ?_
          refine Qn.block_ret ?_
          refine Qn.ret_then ?_
          refine Qn.ret_then ?_
          have hI := hI.drop
          have hI := hI.drop
          have e := someS h1
          subst e
          try dsimp only at h0
          have e := someS h0
          subst e
          refine Qn.keep [4] (S' := [(4, .bool (decide ((gt y2 x9) < (gt y6 x9))))]) (by kernel_rfl) ?_
          exact post_ret (v := .bool (decide ((gt y2 x9) < (gt y6 x9)))) (fun a ha => RunRes.run (vs := [.bool (decide ((gt y2 x9) < (gt y6 x9)))]) (.tmp (t := 4) (by kernel_rfl) .nil) ha (by kernel_rfl)) ⟨rfl, hI⟩
        · rw [if_neg hb23] at h1
          refine CodT.no' (b := (gt y2 x9) != (gt y6 x9)) (by kernel_rfl) (by simpa using hb23) ?_
          refine CodT.skip ?_
          refine Qn.block_normal ?_
          refine Qn.then ?_
          refine CodT.regionL [0, 1, 2] (by kernel_rfl) ?_
          refine OpsT.pures (r := []) [0, 1, 2] [5, 6, 7] (S' := [(5, .slice A3 y2.length cp4), (6, .slice A7 y6.length cp8), (7, .int .i64 (wi64 (x9 + 1)))]) (by kernel_rfl) ?_
          refine OpsT.done ?_
          exact Qn.thenJ fun a ha => ⟨k, Nat.lt_succ_self k, wi64 (x9 + 1), h1, ha.keep [5, 6, 7] (by kernel_rfl), hI⟩
      · rw [if_neg hb12] at h1
        refine CodT.no' (b := x10) (by kernel_rfl) (by simpa using hb12) ?_
        refine CodT.exit ?_
        refine Qn.exit_then ?_
        refine Qn.exit_then ?_
        refine Qn.block ?_
        have e := someS h1
        subst e
        exact Qn.thenJ fun a ha => ⟨rfl, ha.keep [5, 6] (by kernel_rfl), hI⟩
  ·
    rintro a w ⟨rfl, ha, hI⟩
    try dsimp only at h0
    refine Qn.of ?_ ha
    refine Qn.then ?_
    refine CodT.seq ?_
    refine CodT.regionL [0, 1, 2, 3, 4, 5] (by kernel_rfl) ?_
    refine OpsT.pures (r := []) [0, 1, 2, 3, 4, 5] [4] (S' := [(4, .bool (decide ((y2.length : Int) < (y6.length : Int))))]) (by kernel_rfl) ?_
    refine OpsT.done ?_
    refine Qn.then ?_
    refine CodT.ret ?_
    have hI := hI.drop
    have hI := hI.drop
    have e := someS h0
    subst e
    refine Qn.keep [4] (S' := [(4, .bool (decide ((y2.length : Int) < (y6.length : Int))))]) (by kernel_rfl) ?_
    exact post_ret (v := .bool (decide ((y2.length : Int) < (y6.length : Int)))) (fun a ha => RunRes.run (vs := [.bool (decide ((y2.length : Int) < (y6.length : Int)))]) (.tmp (t := 4) (by kernel_rfl) .nil) ha (by kernel_rfl)) ⟨rfl, hI⟩
end Go.Cen
