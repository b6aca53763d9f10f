/- That the machine computes these: walks, printed by a program of ours. -/
import Derived.Test.YthdoklobbcedcacPx
import Derived.Test.YthdoklobbcedcacWx2
set_option linter.unusedVariables false
set_option linter.unusedSimpArgs false
namespace Go.Cen
set_option maxRecDepth 100000
set_option maxHeartbeats 4000000
/-- cenotaph/cenotaphref03.Rune -/
theorem c78 (w0 w : World) (Z : Hp) (A : HP) (hI : Inv w0 Z w A) (a0 : ByteArray) (r : (Int × Int)) (h0 : ref03_Rune a0 = some r) :
  Calls prog 78 #[.string a0] w (fun e w' => e = .returned (.tuple #[iv r.1, iv r.2]) ∧ Inv w0 Z w' A) := by
 have e4 := calls_intro (R := (fun e w' => e = .returned (.tuple #[iv r.1, iv r.2]) ∧ Inv w0 Z w' A)) (w := w) (args := [.string a0]) (fn := Go.Proofs.Try.f78) 85 Go.Proofs.Try.func78 (by rfl) Go.Proofs.Try.ntmps78 (by kernel_rfl)
 refine e4 ?_
 clear e4
 unfold ref03_Rune at h0
 refine cQ ?_
 refine cR [0, 1] (by kernel_rfl) ?_
 refine oP (r := []) [0, 1] (S' := [(0, .string a0)]) (by kernel_rfl) ?_
 refine oD ?_
 refine qT ?_
 refine cQ ?_
 refine cR [0, 1, 2, 3] (by kernel_rfl) ?_
 refine oP (r := [1, 2, 3]) [0] (S' := [(0, .string a0), (10, .string a0)]) (by kernel_rfl) ?_
 obtain ⟨hg1, h0⟩ := guardS h0
 refine oC (Does.yi (Yl.indexStr (d := 11) (T := 9) (k := .i64) (j := 0) (s := a0) (by kernel_rfl) Go.Proofs.Try.underlying9 hg1.1 hg1.2) hI ?_)
 refine oP (r := []) [2, 3] (S' := [(0, .string a0), (4, iv (wi64 (bt a0 0)))]) (by kernel_rfl) ?_
 refine oD ?_
 refine qT ?_
 refine cQ ?_
 refine cQ ?_
 refine cR [0, 1] (by kernel_rfl) ?_
 refine oP (r := []) [0, 1] (S' := [(0, .string a0), (4, iv (wi64 (bt a0 0))), (14, .bool (decide ((wi64 (bt a0 0)) < 128)))]) (by kernel_rfl) ?_
 refine oD ?_
 refine qT ?_
 by_cases hb2 : (decide ((wi64 (bt a0 0)) < 128)) = true
 ·
  rw [if_pos hb2] at h0
  refine CodT.yes' (b := decide ((wi64 (bt a0 0)) < 128)) (by kernel_rfl) hb2 ?_
  refine cQ ?_
  refine cR [0, 1, 2] (by kernel_rfl) ?_
  refine oP (r := []) [0, 1, 2] (S' := [(2, iv (wi64 (bt a0 0))), (3, iv 1)]) (by kernel_rfl) ?_
  refine oD ?_
  refine qT ?_
  refine CodT.ret ?_
  refine Qn.ret_then ?_
  have e := someS h0
  subst e
  refine qK [2, 3] (S' := [(2, iv (wi64 (bt a0 0))), (3, iv 1)]) (by kernel_rfl) ?_
  exact post_ret (v := .tuple #[iv (wi64 (bt a0 0)), iv 1]) (fun a ha => RunRes.run (vs := [iv (wi64 (bt a0 0)), iv 1]) (.tmp (t := 2) (by kernel_rfl) (.tmp (t := 3) (by kernel_rfl) .nil)) ha (by kernel_rfl)) ⟨rfl, hI⟩
 ·
  rw [if_neg hb2] at h0
  refine CodT.no' (b := decide ((wi64 (bt a0 0)) < 128)) (by kernel_rfl) (by simpa using hb2) ?_
  refine CodT.skip ?_
  refine qT ?_
  refine cQ ?_
  refine cR [0] (by kernel_rfl) ?_
  refine oP (r := []) [0] (S' := [(0, .string a0), (4, iv (wi64 (bt a0 0))), (5, iv 0)]) (by kernel_rfl) ?_
  refine oD ?_
  refine qT ?_
  refine cQ ?_
  refine cR [0] (by kernel_rfl) ?_
  refine oP (r := []) [0] (S' := [(0, .string a0), (4, iv (wi64 (bt a0 0))), (5, iv 0), (6, iv 0)]) (by kernel_rfl) ?_
  refine oD ?_
  refine qT ?_
  refine cQ ?_
  refine cR [0] (by kernel_rfl) ?_
  refine oP (r := []) [0] (S' := [(0, .string a0), (4, iv (wi64 (bt a0 0))), (5, iv 0), (6, iv 0), (7, iv 0)]) (by kernel_rfl) ?_
  refine oD ?_
  refine qT ?_
  obtain ⟨r1, h1, h0⟩ := bindS h0
  refine CodT.meet (fun a w => ∃ (x3 : Int) (x4 : Int) (x5 : Int), (x3, x4, x5) = r1 ∧ Fr 85 [(0, .string a0), (5, iv x3), (6, iv x4), (7, iv x5)] a ∧ Inv w0 Z w A) ?_ ?_
  ·
   obtain ⟨r2, h2, h1⟩ := bindS h1
   refine CodT.meet (fun a w => ∃ (x6 : Bool), x6 = r2 ∧ Fr 85 [(0, .string a0), (4, iv (wi64 (bt a0 0))), (5, iv 0), (6, iv 0), (7, iv 0), (21, .bool x6)] a ∧ Inv w0 Z w A) ?_ ?_
   ·
    refine cR [0, 1, 2, 3, 4, 5] (by kernel_rfl) ?_
    refine oP (r := [3, 4, 5]) [0, 1, 2] (S' := [(0, .string a0), (4, iv (wi64 (bt a0 0))), (5, iv 0), (6, iv 0), (7, iv 0), (18, .bool (decide ((wi64 (bt a0 0)) ≥ 194)))]) (by kernel_rfl) ?_
    by_cases hb7 : (decide ((wi64 (bt a0 0)) ≥ 194)) = true
    ·
     rw [if_pos hb7] at h2
     refine oK [0, 4, 5, 6, 7, 18] (S' := [(0, .string a0), (4, iv (wi64 (bt a0 0))), (5, iv 0), (6, iv 0), (7, iv 0), (18, .bool true)]) (by simp only [hb7]; kernel_rfl) ?_
     refine oP (r := []) [3, 4, 5] (S' := [(0, .string a0), (4, iv (wi64 (bt a0 0))), (5, iv 0), (6, iv 0), (7, iv 0), (21, .bool (decide ((wi64 (bt a0 0)) < 224)))]) (by kernel_rfl) ?_
     refine oD ?_
     have e := someS h2
     subst e
     exact Qn.thenJ fun a ha => ⟨decide ((wi64 (bt a0 0)) < 224), rfl, ha.keep [0, 4, 5, 6, 7, 21] (by kernel_rfl), hI⟩
    ·
     rw [if_neg hb7] at h2
     have hb7 : (decide ((wi64 (bt a0 0)) ≥ 194)) = false := by simpa using hb7
     refine oK [0, 4, 5, 6, 7, 18] (S' := [(0, .string a0), (4, iv (wi64 (bt a0 0))), (5, iv 0), (6, iv 0), (7, iv 0), (18, .bool false)]) (by simp only [hb7]; kernel_rfl) ?_
     refine oP (r := []) [3, 4, 5] (S' := [(0, .string a0), (4, iv (wi64 (bt a0 0))), (5, iv 0), (6, iv 0), (7, iv 0), (21, .bool false)]) (by kernel_rfl) ?_
     refine oD ?_
     have e := someS h2
     subst e
     exact Qn.thenJ fun a ha => ⟨false, rfl, ha.keep [0, 4, 5, 6, 7, 21] (by kernel_rfl), hI⟩
   ·
    rintro a w ⟨x6, rfl, ha, hI⟩
    try dsimp only at h1
    refine CodT.of ?_ ha
    by_cases hb8 : x6 = true
    ·
     rw [if_pos hb8] at h1
     refine CodT.yes' (b := x6) (by kernel_rfl) hb8 ?_
     refine cQ ?_
     refine cR [0] (by kernel_rfl) ?_
     refine oP (r := []) [0] (S' := [(0, .string a0), (4, iv (wi64 (bt a0 0))), (5, iv 2)]) (by kernel_rfl) ?_
     refine oD ?_
     refine qT ?_
     refine cQ ?_
     refine cR [0] (by kernel_rfl) ?_
     refine oP (r := []) [0] (S' := [(0, .string a0), (4, iv (wi64 (bt a0 0))), (5, iv 2), (6, iv 128)]) (by kernel_rfl) ?_
     refine oD ?_
     refine qT ?_
     refine cR [0, 1, 2] (by kernel_rfl) ?_
     refine oP (r := []) [0, 1, 2] (S' := [(0, .string a0), (5, iv 2), (6, iv 128), (7, iv (wi64 ((wi64 (bt a0 0)) - 192)))]) (by kernel_rfl) ?_
     refine oD ?_
     have e := someS h1
     subst e
     exact Qn.thenJ fun a ha => ⟨2, 128, wi64 ((wi64 (bt a0 0)) - 192), rfl, ha.keep [0, 5, 6, 7] (by kernel_rfl), hI⟩
    ·
     rw [if_neg hb8] at h1
     refine CodT.no' (b := x6) (by kernel_rfl) (by simpa using hb8) ?_
     obtain ⟨r2, h2, h1⟩ := bindS h1
     refine CodT.meet (fun a w => ∃ (x9 : Bool), x9 = r2 ∧ Fr 85 [(0, .string a0), (4, iv (wi64 (bt a0 0))), (5, iv 0), (6, iv 0), (7, iv 0), (29, .bool x9)] a ∧ Inv w0 Z w A) ?_ ?_
     ·
      refine cR [0, 1, 2, 3, 4, 5] (by kernel_rfl) ?_
      refine oP (r := [3, 4, 5]) [0, 1, 2] (S' := [(0, .string a0), (4, iv (wi64 (bt a0 0))), (5, iv 0), (6, iv 0), (7, iv 0), (26, .bool (decide ((wi64 (bt a0 0)) ≥ 224)))]) (by kernel_rfl) ?_
      by_cases hb10 : (decide ((wi64 (bt a0 0)) ≥ 224)) = true
      ·
       rw [if_pos hb10] at h2
       refine oK [0, 4, 5, 6, 7, 26] (S' := [(0, .string a0), (4, iv (wi64 (bt a0 0))), (5, iv 0), (6, iv 0), (7, iv 0), (26, .bool true)]) (by simp only [hb10]; kernel_rfl) ?_
       refine oP (r := []) [3, 4, 5] (S' := [(0, .string a0), (4, iv (wi64 (bt a0 0))), (5, iv 0), (6, iv 0), (7, iv 0), (29, .bool (decide ((wi64 (bt a0 0)) < 240)))]) (by kernel_rfl) ?_
       refine oD ?_
       have e := someS h2
       subst e
       exact Qn.thenJ fun a ha => ⟨decide ((wi64 (bt a0 0)) < 240), rfl, ha.keep [0, 4, 5, 6, 7, 29] (by kernel_rfl), hI⟩
      ·
       rw [if_neg hb10] at h2
       have hb10 : (decide ((wi64 (bt a0 0)) ≥ 224)) = false := by simpa using hb10
       refine oK [0, 4, 5, 6, 7, 26] (S' := [(0, .string a0), (4, iv (wi64 (bt a0 0))), (5, iv 0), (6, iv 0), (7, iv 0), (26, .bool false)]) (by simp only [hb10]; kernel_rfl) ?_
       refine oP (r := []) [3, 4, 5] (S' := [(0, .string a0), (4, iv (wi64 (bt a0 0))), (5, iv 0), (6, iv 0), (7, iv 0), (29, .bool false)]) (by kernel_rfl) ?_
       refine oD ?_
       have e := someS h2
       subst e
       exact Qn.thenJ fun a ha => ⟨false, rfl, ha.keep [0, 4, 5, 6, 7, 29] (by kernel_rfl), hI⟩
     ·
      rintro a w ⟨x9, rfl, ha, hI⟩
      try dsimp only at h1
      refine CodT.of ?_ ha
      by_cases hb11 : x9 = true
      ·
       rw [if_pos hb11] at h1
       refine CodT.yes' (b := x9) (by kernel_rfl) hb11 ?_
       refine cQ ?_
       refine cR [0] (by kernel_rfl) ?_
       refine oP (r := []) [0] (S' := [(0, .string a0), (4, iv (wi64 (bt a0 0))), (5, iv 3)]) (by kernel_rfl) ?_
       refine oD ?_
       refine qT ?_
       refine cQ ?_
       refine cR [0] (by kernel_rfl) ?_
       refine oP (r := []) [0] (S' := [(0, .string a0), (4, iv (wi64 (bt a0 0))), (5, iv 3), (6, iv 2048)]) (by kernel_rfl) ?_
       refine oD ?_
       refine qT ?_
       refine cR [0, 1, 2] (by kernel_rfl) ?_
       refine oP (r := []) [0, 1, 2] (S' := [(0, .string a0), (5, iv 3), (6, iv 2048), (7, iv (wi64 ((wi64 (bt a0 0)) - 224)))]) (by kernel_rfl) ?_
       refine oD ?_
       have e := someS h1
       subst e
       exact Qn.thenJ fun a ha => ⟨3, 2048, wi64 ((wi64 (bt a0 0)) - 224), rfl, ha.keep [0, 5, 6, 7] (by kernel_rfl), hI⟩
      ·
       rw [if_neg hb11] at h1
       refine CodT.no' (b := x9) (by kernel_rfl) (by simpa using hb11) ?_
       obtain ⟨r2, h2, h1⟩ := bindS h1
       refine CodT.meet (fun a w => ∃ (x12 : Bool), x12 = r2 ∧ Fr 85 [(0, .string a0), (4, iv (wi64 (bt a0 0))), (5, iv 0), (6, iv 0), (7, iv 0), (37, .bool x12)] a ∧ Inv w0 Z w A) ?_ ?_
       ·
        refine cR [0, 1, 2, 3, 4, 5] (by kernel_rfl) ?_
        refine oP (r := [3, 4, 5]) [0, 1, 2] (S' := [(0, .string a0), (4, iv (wi64 (bt a0 0))), (5, iv 0), (6, iv 0), (7, iv 0), (34, .bool (decide ((wi64 (bt a0 0)) ≥ 240)))]) (by kernel_rfl) ?_
        by_cases hb13 : (decide ((wi64 (bt a0 0)) ≥ 240)) = true
        ·
         rw [if_pos hb13] at h2
         refine oK [0, 4, 5, 6, 7, 34] (S' := [(0, .string a0), (4, iv (wi64 (bt a0 0))), (5, iv 0), (6, iv 0), (7, iv 0), (34, .bool true)]) (by simp only [hb13]; kernel_rfl) ?_
         refine oP (r := []) [3, 4, 5] (S' := [(0, .string a0), (4, iv (wi64 (bt a0 0))), (5, iv 0), (6, iv 0), (7, iv 0), (37, .bool (decide ((wi64 (bt a0 0)) < 245)))]) (by kernel_rfl) ?_
         refine oD ?_
         have e := someS h2
         subst e
         exact Qn.thenJ fun a ha => ⟨decide ((wi64 (bt a0 0)) < 245), rfl, ha.keep [0, 4, 5, 6, 7, 37] (by kernel_rfl), hI⟩
        ·
         rw [if_neg hb13] at h2
         have hb13 : (decide ((wi64 (bt a0 0)) ≥ 240)) = false := by simpa using hb13
         refine oK [0, 4, 5, 6, 7, 34] (S' := [(0, .string a0), (4, iv (wi64 (bt a0 0))), (5, iv 0), (6, iv 0), (7, iv 0), (34, .bool false)]) (by simp only [hb13]; kernel_rfl) ?_
         refine oP (r := []) [3, 4, 5] (S' := [(0, .string a0), (4, iv (wi64 (bt a0 0))), (5, iv 0), (6, iv 0), (7, iv 0), (37, .bool false)]) (by kernel_rfl) ?_
         refine oD ?_
         have e := someS h2
         subst e
         exact Qn.thenJ fun a ha => ⟨false, rfl, ha.keep [0, 4, 5, 6, 7, 37] (by kernel_rfl), hI⟩
       ·
        rintro a w ⟨x12, rfl, ha, hI⟩
        try dsimp only at h1
        refine CodT.of ?_ ha
        by_cases hb14 : x12 = true
        ·
         rw [if_pos hb14] at h1
         refine CodT.yes' (b := x12) (by kernel_rfl) hb14 ?_
         refine cQ ?_
         refine cR [0] (by kernel_rfl) ?_
         refine oP (r := []) [0] (S' := [(0, .string a0), (4, iv (wi64 (bt a0 0))), (5, iv 4)]) (by kernel_rfl) ?_
         refine oD ?_
         refine qT ?_
         refine cQ ?_
         refine cR [0] (by kernel_rfl) ?_
         refine oP (r := []) [0] (S' := [(0, .string a0), (4, iv (wi64 (bt a0 0))), (5, iv 4), (6, iv 65536)]) (by kernel_rfl) ?_
         refine oD ?_
         refine qT ?_
         refine cR [0, 1, 2] (by kernel_rfl) ?_
         refine oP (r := []) [0, 1, 2] (S' := [(0, .string a0), (5, iv 4), (6, iv 65536), (7, iv (wi64 ((wi64 (bt a0 0)) - 240)))]) (by kernel_rfl) ?_
         refine oD ?_
         have e := someS h1
         subst e
         exact Qn.thenJ fun a ha => ⟨4, 65536, wi64 ((wi64 (bt a0 0)) - 240), rfl, ha.keep [0, 5, 6, 7] (by kernel_rfl), hI⟩
        ·
         rw [if_neg hb14] at h1
         refine CodT.no' (b := x12) (by kernel_rfl) (by simpa using hb14) ?_
         refine CodT.skip ?_
         have e := someS h1
         subst e
         exact Qn.thenJ fun a ha => ⟨0, 0, 0, rfl, ha.keep [0, 5, 6, 7] (by kernel_rfl), hI⟩
  ·
   rintro a w ⟨x3, x4, x5, rfl, ha, hI⟩
   try dsimp only at h0
   refine CodT.of ?_ ha
   refine cQ ?_
   obtain ⟨r1, h1, h0⟩ := bindS h0
   refine CodT.meet (fun a w => ∃ (x15 : Bool), x15 = r1 ∧ Fr 85 [(0, .string a0), (5, iv x3), (6, iv x4), (7, iv x5), (47, .bool x15)] a ∧ Inv w0 Z w A) ?_ ?_
   ·
    refine cR [0, 1, 2, 3, 4, 5, 6, 7] (by kernel_rfl) ?_
    refine oP (r := [3, 4, 5, 6, 7]) [0, 1, 2] (S' := [(0, .string a0), (5, iv x3), (6, iv x4), (7, iv x5), (42, .bool (x3 == 0))]) (by kernel_rfl) ?_
    by_cases hb16 : (x3 == 0) = true
    ·
     rw [if_pos hb16] at h1
     refine oK [0, 5, 6, 7, 42] (S' := [(0, .string a0), (5, iv x3), (6, iv x4), (7, iv x5), (42, .bool true)]) (by simp only [hb16]; kernel_rfl) ?_
     refine oP (r := []) [3, 4, 5, 6, 7] (S' := [(0, .string a0), (5, iv x3), (6, iv x4), (7, iv x5), (47, .bool true)]) (by kernel_rfl) ?_
     refine oD ?_
     have e := someS h1
     subst e
     exact Qn.thenJ fun a ha => ⟨true, rfl, ha.keep [0, 5, 6, 7, 47] (by kernel_rfl), hI⟩
    ·
     rw [if_neg hb16] at h1
     have hb16 : (x3 == 0) = false := by simpa using hb16
     refine oK [0, 5, 6, 7, 42] (S' := [(0, .string a0), (5, iv x3), (6, iv x4), (7, iv x5), (42, .bool false)]) (by simp only [hb16]; kernel_rfl) ?_
     refine oP (r := []) [3, 4, 5, 6, 7] (S' := [(0, .string a0), (5, iv x3), (6, iv x4), (7, iv x5), (47, .bool (decide ((a0.size : Int) < x3)))]) (by kernel_rfl) ?_
     refine oD ?_
     have e := someS h1
     subst e
     exact Qn.thenJ fun a ha => ⟨decide ((a0.size : Int) < x3), rfl, ha.keep [0, 5, 6, 7, 47] (by kernel_rfl), hI⟩
   ·
    rintro a w ⟨x15, rfl, ha, hI⟩
    try dsimp only at h0
    refine CodT.of ?_ ha
    by_cases hb17 : x15 = true
    ·
     rw [if_pos hb17] at h0
     refine CodT.yes' (b := x15) (by kernel_rfl) hb17 ?_
     refine cQ ?_
     refine cR [0, 1] (by kernel_rfl) ?_
     refine oP (r := []) [0, 1] (S' := [(2, iv (-1)), (3, iv 1)]) (by kernel_rfl) ?_
     refine oD ?_
     refine qT ?_
     refine CodT.ret ?_
     refine Qn.ret_then ?_
     have e := someS h0
     subst e
     refine qK [2, 3] (S' := [(2, iv (-1)), (3, iv 1)]) (by kernel_rfl) ?_
     exact post_ret (v := .tuple #[iv (-1), iv 1]) (fun a ha => RunRes.run (vs := [iv (-1), iv 1]) (.tmp (t := 2) (by kernel_rfl) (.tmp (t := 3) (by kernel_rfl) .nil)) ha (by kernel_rfl)) ⟨rfl, hI⟩
    ·
     rw [if_neg hb17] at h0
     refine CodT.no' (b := x15) (by kernel_rfl) (by simpa using hb17) ?_
     refine CodT.skip ?_
     refine qT ?_
     refine cQ ?_
     refine cQ ?_
     refine cR [0] (by kernel_rfl) ?_
     refine oP (r := []) [0] (S' := [(0, .string a0), (5, iv x3), (6, iv x4), (7, iv x5), (8, iv 1)]) (by kernel_rfl) ?_
     refine oD ?_
     refine qT ?_
     obtain ⟨r1, h1, h0⟩ := bindS h0
     refine CodT.meet1 (fun a w => ∃ (x18 : Int), .inr x18 = r1 ∧ Fr 85 [(5, iv x3), (6, iv x4), (7, iv x18)] a ∧ Inv w0 Z w A) ?_ ?_
     ·
      refine CodT.block ?_
      refine (fun a ha => wp_loopN (fun k a w => ∃ (x19 : Int) (x20 : Int), ref03_Rune.l0 x3 a0 k x19 x20 = some r1 ∧ Fr 85 [(0, .string a0), (5, iv x3), (6, iv x4), (7, iv x19), (8, iv x20)] a ∧ Inv w0 Z w A) ?_ FU a w ⟨x5, 1, h1, ha.keep [0, 5, 6, 7, 8] (by kernel_rfl), hI⟩)
      clear h1 hI
      rintro k a w ⟨x19, x20, h1, ha, hI⟩
      rcases k with _ | k
      ·
       cases h1
      simp only [ref03_Rune.l0] at h1
      refine CodT.of ?_ ha
      refine cQ ?_
      refine cQ ?_
      refine cR [0, 1, 2] (by kernel_rfl) ?_
      refine oP (r := []) [0, 1, 2] (S' := [(0, .string a0), (5, iv x3), (6, iv x4), (7, iv x19), (8, iv x20), (50, .bool (decide (x20 < x3)))]) (by kernel_rfl) ?_
      refine oD ?_
      refine qT ?_
      by_cases hb21 : (decide (x20 < x3)) = true
      ·
       rw [if_pos hb21] at h1
       refine CodT.yes' (b := decide (x20 < x3)) (by kernel_rfl) hb21 ?_
       refine CodT.skip ?_
       refine qT ?_
       refine cQ ?_
       refine CodT.block ?_
       refine cQ ?_
       refine cR [0, 1, 2, 3, 4] (by kernel_rfl) ?_
       refine oP (r := [2, 3, 4]) [0, 1] (S' := [(0, .string a0), (5, iv x3), (6, iv x4), (7, iv x19), (8, iv x20), (53, .string a0), (54, iv x20)]) (by kernel_rfl) ?_
       obtain ⟨hg22, h1⟩ := guardS h1
       refine oC (Does.yi (Yl.indexStr (d := 55) (T := 9) (k := .i64) (j := x20) (s := a0) (by kernel_rfl) Go.Proofs.Try.underlying9 hg22.1 hg22.2) hI ?_)
       refine oP (r := []) [3, 4] (S' := [(0, .string a0), (5, iv x3), (6, iv x4), (7, iv x19), (8, iv x20), (9, iv (wi64 (bt a0 x20)))]) (by kernel_rfl) ?_
       refine oD ?_
       refine qT ?_
       refine cQ ?_
       obtain ⟨r2, h2, h1⟩ := bindS h1
       refine CodT.meet (fun a w => ∃ (x23 : Bool), x23 = r2 ∧ Fr 85 [(0, .string a0), (5, iv x3), (6, iv x4), (7, iv x19), (8, iv x20), (9, iv (wi64 (bt a0 x20))), (62, .bool x23)] a ∧ Inv w0 Z w A) ?_ ?_
       ·
        refine cR [0, 1, 2, 3, 4, 5] (by kernel_rfl) ?_
        refine oP (r := [3, 4, 5]) [0, 1, 2] (S' := [(0, .string a0), (5, iv x3), (6, iv x4), (7, iv x19), (8, iv x20), (9, iv (wi64 (bt a0 x20))), (59, .bool (decide ((wi64 (bt a0 x20)) < 128)))]) (by kernel_rfl) ?_
        by_cases hb24 : (decide ((wi64 (bt a0 x20)) < 128)) = true
        ·
         rw [if_pos hb24] at h2
         refine oK [0, 5, 6, 7, 8, 9, 59] (S' := [(0, .string a0), (5, iv x3), (6, iv x4), (7, iv x19), (8, iv x20), (9, iv (wi64 (bt a0 x20))), (59, .bool true)]) (by simp only [hb24]; kernel_rfl) ?_
         refine oP (r := []) [3, 4, 5] (S' := [(0, .string a0), (5, iv x3), (6, iv x4), (7, iv x19), (8, iv x20), (9, iv (wi64 (bt a0 x20))), (62, .bool true)]) (by kernel_rfl) ?_
         refine oD ?_
         have e := someS h2
         subst e
         exact Qn.thenJ fun a ha => ⟨true, rfl, ha.keep [0, 5, 6, 7, 8, 9, 62] (by kernel_rfl), hI⟩
        ·
         rw [if_neg hb24] at h2
         have hb24 : (decide ((wi64 (bt a0 x20)) < 128)) = false := by simpa using hb24
         refine oK [0, 5, 6, 7, 8, 9, 59] (S' := [(0, .string a0), (5, iv x3), (6, iv x4), (7, iv x19), (8, iv x20), (9, iv (wi64 (bt a0 x20))), (59, .bool false)]) (by simp only [hb24]; kernel_rfl) ?_
         refine oP (r := []) [3, 4, 5] (S' := [(0, .string a0), (5, iv x3), (6, iv x4), (7, iv x19), (8, iv x20), (9, iv (wi64 (bt a0 x20))), (62, .bool (decide ((wi64 (bt a0 x20)) > 191)))]) (by kernel_rfl) ?_
         refine oD ?_
         have e := someS h2
         subst e
         exact Qn.thenJ fun a ha => ⟨decide ((wi64 (bt a0 x20)) > 191), rfl, ha.keep [0, 5, 6, 7, 8, 9, 62] (by kernel_rfl), hI⟩
       ·
        rintro a w ⟨x23, rfl, ha, hI⟩
        try dsimp only at h1
        refine CodT.of ?_ ha
        by_cases hb25 : x23 = true
        ·
         rw [if_pos hb25] at h1
         refine CodT.yes' (b := x23) (by kernel_rfl) hb25 ?_
         refine cQ ?_
         refine cR [0, 1] (by kernel_rfl) ?_
         refine oP (r := []) [0, 1] (S' := [(2, iv (-1)), (3, iv 1)]) (by kernel_rfl) ?_
         refine oD ?_
         refine qT ?_
         refine CodT.ret ?_
         refine Qn.ret_then ?_
         refine Qn.block_ret ?_
         refine Qn.ret_then ?_
         refine Qn.ret_then ?_
         refine Qn.block_ret ?_
         refine Qn.ret_then ?_
         refine Qn.ret_then ?_
         have e := someS h1
         subst e
         try dsimp only at h0
         have e := someS h0
         subst e
         refine qK [2, 3] (S' := [(2, iv (-1)), (3, iv 1)]) (by kernel_rfl) ?_
         exact post_ret (v := .tuple #[iv (-1), iv 1]) (fun a ha => RunRes.run (vs := [iv (-1), iv 1]) (.tmp (t := 2) (by kernel_rfl) (.tmp (t := 3) (by kernel_rfl) .nil)) ha (by kernel_rfl)) ⟨rfl, hI⟩
        ·
         rw [if_neg hb25] at h1
         refine CodT.no' (b := x23) (by kernel_rfl) (by simpa using hb25) ?_
         refine CodT.skip ?_
         refine qT ?_
         refine cR [0, 1, 2, 3, 4, 5] (by kernel_rfl) ?_
         refine oP (r := []) [0, 1, 2, 3, 4, 5] (S' := [(0, .string a0), (5, iv x3), (6, iv x4), (7, iv (wi64 ((wi64 ((wi64 (x19 * 64)) + (wi64 (bt a0 x20)))) - 128))), (8, iv x20)]) (by kernel_rfl) ?_
         refine oD ?_
         refine Qn.block_normal ?_
         refine qT ?_
         refine cR [0, 1, 2] (by kernel_rfl) ?_
         refine oP (r := []) [0, 1, 2] (S' := [(0, .string a0), (5, iv x3), (6, iv x4), (7, iv (wi64 ((wi64 ((wi64 (x19 * 64)) + (wi64 (bt a0 x20)))) - 128))), (8, iv (wi64 (x20 + 1)))]) (by kernel_rfl) ?_
         refine oD ?_
         exact Qn.thenJ fun a ha => ⟨k, Nat.lt_succ_self k, wi64 ((wi64 ((wi64 (x19 * 64)) + (wi64 (bt a0 x20)))) - 128), wi64 (x20 + 1), h1, ha.keep [0, 5, 6, 7, 8] (by kernel_rfl), hI⟩
      ·
       rw [if_neg hb21] at h1
       refine CodT.no' (b := decide (x20 < x3)) (by kernel_rfl) (by simpa using hb21) ?_
       refine CodT.exit ?_
       refine Qn.exit_then ?_
       refine Qn.exit_then ?_
       refine Qn.block ?_
       have e := someS h1
       subst e
       exact Qn.thenJ fun a ha => ⟨x19, rfl, ha.keep [5, 6, 7] (by kernel_rfl), hI⟩
     ·
      rintro a w ⟨x18, rfl, ha, hI⟩
      try dsimp only at h0
      refine Qn.of ?_ ha
      refine qT ?_
      refine cQ ?_
      obtain ⟨r1, h1, h0⟩ := bindS h0
      refine CodT.meet (fun a w => ∃ (x26 : Bool), x26 = r1 ∧ Fr 85 [(5, iv x3), (7, iv x18), (82, .bool x26)] a ∧ Inv w0 Z w A) ?_ ?_
      ·
       refine cR [0, 1, 2, 3, 4, 5, 6, 7, 8, 9, 10, 11, 12, 13, 14] (by kernel_rfl) ?_
       refine oP (r := [4, 5, 6, 7, 8, 9, 10, 11, 12, 13, 14]) [0, 1, 2, 3] (S' := [(5, iv x3), (7, iv x18), (71, .bool (decide (x18 < x4)))]) (by kernel_rfl) ?_
       by_cases hb27 : (decide (x18 < x4)) = true
       ·
        rw [if_pos hb27] at h1
        refine oK [5, 7, 71] (S' := [(5, iv x3), (7, iv x18), (71, .bool true)]) (by simp only [hb27]; kernel_rfl) ?_
        refine oP (r := []) [4, 5, 6, 7, 8, 9, 10, 11, 12, 13, 14] (S' := [(5, iv x3), (7, iv x18), (82, .bool true)]) (by kernel_rfl) ?_
        refine oD ?_
        have e := someS h1
        subst e
        exact Qn.thenJ fun a ha => ⟨true, rfl, ha.keep [5, 7, 82] (by kernel_rfl), hI⟩
       ·
        rw [if_neg hb27] at h1
        have hb27 : (decide (x18 < x4)) = false := by simpa using hb27
        refine oK [5, 7, 71] (S' := [(5, iv x3), (7, iv x18), (71, .bool false)]) (by simp only [hb27]; kernel_rfl) ?_
        refine oP (r := [8, 9, 10, 11, 12, 13, 14]) [4, 5, 6, 7] (S' := [(5, iv x3), (7, iv x18), (75, .bool (decide (x18 > 1114111)))]) (by kernel_rfl) ?_
        by_cases hb28 : (decide (x18 > 1114111)) = true
        ·
         rw [if_pos hb28] at h1
         refine oK [5, 7, 75] (S' := [(5, iv x3), (7, iv x18), (75, .bool true)]) (by simp only [hb28]; kernel_rfl) ?_
         refine oP (r := []) [8, 9, 10, 11, 12, 13, 14] (S' := [(5, iv x3), (7, iv x18), (82, .bool true)]) (by kernel_rfl) ?_
         refine oD ?_
         have e := someS h1
         subst e
         exact Qn.thenJ fun a ha => ⟨true, rfl, ha.keep [5, 7, 82] (by kernel_rfl), hI⟩
        ·
         rw [if_neg hb28] at h1
         have hb28 : (decide (x18 > 1114111)) = false := by simpa using hb28
         refine oK [5, 7, 75] (S' := [(5, iv x3), (7, iv x18), (75, .bool false)]) (by simp only [hb28]; kernel_rfl) ?_
         refine oP (r := [11, 12, 13, 14]) [8, 9, 10] (S' := [(5, iv x3), (7, iv x18), (75, .bool false), (78, .bool (decide (x18 ≥ 55296)))]) (by kernel_rfl) ?_
         by_cases hb29 : (decide (x18 ≥ 55296)) = true
         ·
          rw [if_pos hb29] at h1
          refine oK [5, 7, 75, 78] (S' := [(5, iv x3), (7, iv x18), (75, .bool false), (78, .bool true)]) (by simp only [hb29]; kernel_rfl) ?_
          refine oP (r := []) [11, 12, 13, 14] (S' := [(5, iv x3), (7, iv x18), (82, .bool (decide (x18 ≤ 57343)))]) (by kernel_rfl) ?_
          refine oD ?_
          have e := someS h1
          subst e
          exact Qn.thenJ fun a ha => ⟨decide (x18 ≤ 57343), rfl, ha.keep [5, 7, 82] (by kernel_rfl), hI⟩
         ·
          rw [if_neg hb29] at h1
          have hb29 : (decide (x18 ≥ 55296)) = false := by simpa using hb29
          refine oK [5, 7, 75, 78] (S' := [(5, iv x3), (7, iv x18), (75, .bool false), (78, .bool false)]) (by simp only [hb29]; kernel_rfl) ?_
          refine oP (r := []) [11, 12, 13, 14] (S' := [(5, iv x3), (7, iv x18), (82, .bool false)]) (by kernel_rfl) ?_
          refine oD ?_
          have e := someS h1
          subst e
          exact Qn.thenJ fun a ha => ⟨false, rfl, ha.keep [5, 7, 82] (by kernel_rfl), hI⟩
      ·
       rintro a w ⟨x26, rfl, ha, hI⟩
       try dsimp only at h0
       refine CodT.of ?_ ha
       by_cases hb30 : x26 = true
       ·
        rw [if_pos hb30] at h0
        refine CodT.yes' (b := x26) (by kernel_rfl) hb30 ?_
        refine cQ ?_
        refine cR [0, 1] (by kernel_rfl) ?_
        refine oP (r := []) [0, 1] (S' := [(2, iv (-1)), (3, iv 1)]) (by kernel_rfl) ?_
        refine oD ?_
        refine qT ?_
        refine CodT.ret ?_
        refine Qn.ret_then ?_
        have e := someS h0
        subst e
        refine qK [2, 3] (S' := [(2, iv (-1)), (3, iv 1)]) (by kernel_rfl) ?_
        exact post_ret (v := .tuple #[iv (-1), iv 1]) (fun a ha => RunRes.run (vs := [iv (-1), iv 1]) (.tmp (t := 2) (by kernel_rfl) (.tmp (t := 3) (by kernel_rfl) .nil)) ha (by kernel_rfl)) ⟨rfl, hI⟩
       ·
        rw [if_neg hb30] at h0
        refine CodT.no' (b := x26) (by kernel_rfl) (by simpa using hb30) ?_
        refine CodT.skip ?_
        refine qT ?_
        refine cQ ?_
        refine cR [0, 1, 2, 3] (by kernel_rfl) ?_
        refine oP (r := []) [0, 1, 2, 3] (S' := [(2, iv x18), (3, iv x3)]) (by kernel_rfl) ?_
        refine oD ?_
        refine qT ?_
        refine CodT.ret ?_
        have e := someS h0
        subst e
        refine qK [2, 3] (S' := [(2, iv x18), (3, iv x3)]) (by kernel_rfl) ?_
        exact post_ret (v := .tuple #[iv x18, iv x3]) (fun a ha => RunRes.run (vs := [iv x18, iv x3]) (.tmp (t := 2) (by kernel_rfl) (.tmp (t := 3) (by kernel_rfl) .nil)) ha (by kernel_rfl)) ⟨rfl, hI⟩
/-- cenotaph/cenotaphref03.Runes -/
theorem c77 (w0 w : World) (Z : Hp) (A : HP) (hI : Inv w0 Z w A) (a0 : ByteArray) (r : (List Int)) (h0 : ref03_Runes a0 = some r) :
  Calls prog 77 #[.string a0] w (fun e w' => ∃ (A1 : Option Addr) (c1 : Nat), e = .returned (.slice A1 r.length c1) ∧ Inv w0 Z w' (star (ownS 3 (cI .i64) 1 A1 c1 r) A)) := by
 have e4 := calls_intro (R := (fun e w' => ∃ (A1 : Option Addr) (c1 : Nat), e = .returned (.slice A1 r.length c1) ∧ Inv w0 Z w' (star (ownS 3 (cI .i64) 1 A1 c1 r) A))) (w := w) (args := [.string a0]) (fn := Go.Proofs.Try.f77) 33 Go.Proofs.Try.func77 (by rfl) Go.Proofs.Try.ntmps77 (by kernel_rfl)
 refine e4 ?_
 clear e4
 unfold ref03_Runes at h0
 refine cQ ?_
 refine cR [0] (by kernel_rfl) ?_
 refine oP (r := []) [0] (S' := [(0, .string a0)]) (by kernel_rfl) ?_
 refine oD ?_
 refine qT ?_
 refine cQ ?_
 refine cR [0] (by kernel_rfl) ?_
 refine oP (r := []) [0] (S' := [(0, .string a0), (3, .slice none 0 0)]) (by kernel_rfl) ?_
 refine oD ?_
 refine qT ?_
 refine cQ ?_
 refine cQ ?_
 refine cR [0] (by kernel_rfl) ?_
 refine oP (r := []) [0] (S' := [(0, .string a0), (3, .slice none 0 0), (4, iv 0)]) (by kernel_rfl) ?_
 refine oD ?_
 refine qT ?_
 obtain ⟨r1, h1, h0⟩ := bindS h0
 refine CodT.meet1 (fun a w => ∃ (x1 : (List Int)) (A2 : Option Addr) (cp3 : Nat), x1 = r1 ∧ Fr 33 [(3, .slice A2 x1.length cp3)] a ∧ Inv w0 Z w (star (ownS 3 (cI .i64) 1 A2 cp3 x1) A)) ?_ ?_
 ·
  refine CodT.block ?_
  have hI := ownS_nil (α := Int) hI 3 (cI .i64) 1
  refine (fun a ha => wp_loopN (fun k a w => ∃ (x4 : (List Int)) (x7 : Int) (A5 : Option Addr) (cp6 : Nat), ref03_Runes.l0 a0 k x4 x7 = some r1 ∧ Fr 33 [(0, .string a0), (3, .slice A5 x4.length cp6), (4, iv x7)] a ∧ Inv w0 Z w (star (ownS 3 (cI .i64) 1 A5 cp6 x4) A)) ?_ FU a w ⟨([] : List Int), 0, none, 0, h1, ha.keep [0, 3, 4] (by kernel_rfl), hI⟩)
  clear h1 hI
  rintro k a w ⟨x4, x7, A5, cp6, h1, ha, hI⟩
  rcases k with _ | k
  ·
   cases h1
  simp only [ref03_Runes.l0] at h1
  refine CodT.of ?_ ha
  refine cQ ?_
  refine cQ ?_
  refine cR [0, 1, 2, 3] (by kernel_rfl) ?_
  refine oP (r := []) [0, 1, 2, 3] (S' := [(0, .string a0), (3, .slice A5 x4.length cp6), (4, iv x7), (10, .bool (decide (x7 < (a0.size : Int))))]) (by kernel_rfl) ?_
  refine oD ?_
  refine qT ?_
  by_cases hb8 : (decide (x7 < (a0.size : Int))) = true
  ·
   rw [if_pos hb8] at h1
   refine CodT.yes' (b := decide (x7 < (a0.size : Int))) (by kernel_rfl) hb8 ?_
   refine CodT.skip ?_
   refine qT ?_
   refine CodT.block ?_
   refine cQ ?_
   refine cR [0, 1, 2, 3, 4, 5, 6, 7, 8] (by kernel_rfl) ?_
   refine oP (r := [2, 3, 4, 5, 6, 7, 8]) [0, 1] (S' := [(0, .string a0), (3, .slice A5 x4.length cp6), (4, iv x7), (12, .string a0), (13, iv x7)]) (by kernel_rfl) ?_
   obtain ⟨hg9, h1⟩ := guardS h1
   refine oC (Does.yi (Yl.sliceStr10 (d := 14) (T := 9) (s := a0) (lo := x7) (by kernel_rfl) Go.Proofs.Try.underlying9 hg9) hI ?_)
   obtain ⟨⟨y11, y12⟩, hc10, h1⟩ := bindS h1
   try dsimp only at h1
   refine oC (Does.call (d := some 15) (n := 78) (vs := [.string (sx a0 x7 (a0.size : Int))]) (by kernel_rfl) en78 (c78 w0 w _ _ hI (sx a0 x7 (a0.size : Int)) _ hc10) ?_)
   rintro e w ⟨rfl, hI⟩
   refine ⟨_, rfl, ?_⟩
   refine oP (r := []) [4, 5, 6, 7, 8] (S' := [(0, .string a0), (3, .slice A5 x4.length cp6), (4, iv x7), (5, iv y11), (6, iv y12)]) (by kernel_rfl) ?_
   refine oD ?_
   refine qT ?_
   obtain ⟨r2, h2, h1⟩ := bindS h1
   refine CodT.meet (fun a w => ∃ (x13 : Int), x13 = r2 ∧ Fr 33 [(0, .string a0), (3, .slice A5 x4.length cp6), (4, iv x7), (5, iv x13), (6, iv y12)] a ∧ Inv w0 Z w (star (ownS 3 (cI .i64) 1 A5 cp6 x4) A)) ?_ ?_
   ·
    refine cQ ?_
    refine cR [0, 1] (by kernel_rfl) ?_
    refine oP (r := []) [0, 1] (S' := [(0, .string a0), (3, .slice A5 x4.length cp6), (4, iv x7), (5, iv y11), (6, iv y12), (19, .bool (decide (y11 < 0)))]) (by kernel_rfl) ?_
    refine oD ?_
    refine qT ?_
    by_cases hb14 : (decide (y11 < 0)) = true
    ·
     rw [if_pos hb14] at h2
     refine CodT.yes' (b := decide (y11 < 0)) (by kernel_rfl) hb14 ?_
     refine cR [0, 1, 2, 3, 4, 5] (by kernel_rfl) ?_
     refine oP (r := [2, 3, 4, 5]) [0, 1] (S' := [(0, .string a0), (3, .slice A5 x4.length cp6), (4, iv x7), (6, iv y12), (20, .string a0), (21, iv x7)]) (by kernel_rfl) ?_
     obtain ⟨hg15, h2⟩ := guardS h2
     refine oC (Does.yi (Yl.indexStr (d := 22) (T := 9) (k := .i64) (j := x7) (s := a0) (by kernel_rfl) Go.Proofs.Try.underlying9 hg15.1 hg15.2) hI ?_)
     refine oP (r := []) [3, 4, 5] (S' := [(0, .string a0), (3, .slice A5 x4.length cp6), (4, iv x7), (5, iv (wi64 (1114112 + (wi64 (bt a0 x7))))), (6, iv y12)]) (by kernel_rfl) ?_
     refine oD ?_
     have e := someS h2
     subst e
     exact Qn.thenJ fun a ha => ⟨wi64 (1114112 + (wi64 (bt a0 x7))), rfl, ha.keep [0, 3, 4, 5, 6] (by kernel_rfl), hI⟩
    ·
     rw [if_neg hb14] at h2
     refine CodT.no' (b := decide (y11 < 0)) (by kernel_rfl) (by simpa using hb14) ?_
     refine CodT.skip ?_
     have e := someS h2
     subst e
     exact Qn.thenJ fun a ha => ⟨y11, rfl, ha.keep [0, 3, 4, 5, 6] (by kernel_rfl), hI⟩
   ·
    rintro a w ⟨x13, rfl, ha, hI⟩
    try dsimp only at h1
    refine CodT.of ?_ ha
    refine cQ ?_
    refine cR [0, 1, 2, 3, 4] (by kernel_rfl) ?_
    refine oP (r := [2, 3, 4]) [0, 1] (S' := [(0, .string a0), (4, iv x7), (6, iv y12), (25, .slice A5 x4.length cp6), (26, iv x13)]) (by kernel_rfl) ?_
    refine oC (Does.buildSlice (en := (cI .i64)) (d := 27) (n := 1) (T := 95) (ps := [(0, iv x13)]) ([x13] : List Int) (by kernel_rfl) Go.Proofs.Try.underlying95 ty3 (by kernel_rfl) (by kernel_rfl) (by kernel_rfl) (by kernel_rfl) (len_all (fun _ => rfl)) hI ?_)
    intro b16 w hI
    obtain ⟨hg17, h1⟩ := guardS h1
    have hI := hI.mono (pick2 _ _ _)
    refine oC (Does.append (d := 28) (t := 95) (tx := 95) (ty := 95) (ys := x4) (zs := ([x13] : List Int)) (x := .slice (some ⟨b16, 0, none⟩) (([x13] : List Int).length) 1) (by kernel_rfl) Go.Proofs.Try.underlying95 ty3 (by kernel_rfl) hI (src_own Go.Proofs.Try.underlying95 (hI.mono (pick2 _ _ _)) (one_flat _ (fun _ => rfl))) (ownS_facts (hI.mono (pick2 _ _ _))).2.2 (by unfold LIM at hg17; omega) hg17 ?_)
    intro A18 cp19 w hI
    refine oP (r := []) [4] (S' := [(0, .string a0), (3, .slice A18 ((x4 ++ ([x13] : List Int)).length) cp19), (4, iv x7), (6, iv y12)]) (by kernel_rfl) ?_
    refine oD ?_
    refine qT ?_
    refine cR [0, 1, 2, 3] (by kernel_rfl) ?_
    refine oP (r := []) [0, 1, 2, 3] (S' := [(0, .string a0), (3, .slice A18 ((x4 ++ ([x13] : List Int)).length) cp19), (4, iv (wi64 (x7 + y12)))]) (by kernel_rfl) ?_
    refine oD ?_
    refine Qn.block_normal ?_
    have hI := hI.mono (pick2 _ _ _)
    have hI := hI.drop
    exact Qn.thenJ fun a ha => ⟨k, Nat.lt_succ_self k, x4 ++ ([x13] : List Int), wi64 (x7 + y12), A18, cp19, h1, ha.keep [0, 3, 4] (by kernel_rfl), hI⟩
  ·
   rw [if_neg hb8] at h1
   refine CodT.no' (b := decide (x7 < (a0.size : Int))) (by kernel_rfl) (by simpa using hb8) ?_
   refine CodT.exit ?_
   refine Qn.exit_then ?_
   refine Qn.exit_then ?_
   refine Qn.block ?_
   have e := someS h1
   subst e
   exact Qn.thenJ fun a ha => ⟨x4, A5, cp6, rfl, ha.keep [3] (by kernel_rfl), hI⟩
 ·
  rintro a w ⟨x1, A2, cp3, rfl, ha, hI⟩
  try dsimp only at h0
  refine Qn.of ?_ ha
  refine qT ?_
  refine cQ ?_
  refine cR [0, 1] (by kernel_rfl) ?_
  refine oP (r := []) [0, 1] (S' := [(2, .slice A2 x1.length cp3)]) (by kernel_rfl) ?_
  refine oD ?_
  refine qT ?_
  refine CodT.ret ?_
  have e := someS h0
  subst e
  refine qK [2] (S' := [(2, .slice A2 x1.length cp3)]) (by kernel_rfl) ?_
  exact post_ret (v := .slice A2 x1.length cp3) (fun a ha => RunRes.run (vs := [.slice A2 x1.length cp3]) (.tmp (t := 2) (by kernel_rfl) .nil) ha (by kernel_rfl)) ⟨A2, cp3, rfl, hI⟩
/-- cenotaph/cenotaphref03.Valid -/
theorem c73 (w0 w : World) (Z : Hp) (A : HP) (hI : Inv w0 Z w A) (a0 : ByteArray) (r : Bool) (h0 : ref03_Valid a0 = some r) :
  Calls prog 73 #[.string a0] w (fun e w' => e = .returned (.bool r) ∧ Inv w0 Z w' A) := by
 have e4 := calls_intro (R := (fun e w' => e = .returned (.bool r) ∧ Inv w0 Z w' A)) (w := w) (args := [.string a0]) (fn := Go.Proofs.Try.f73) 63 Go.Proofs.Try.func73 (by rfl) Go.Proofs.Try.ntmps73 (by kernel_rfl)
 refine e4 ?_
 clear e4
 unfold ref03_Valid at h0
 refine cQ ?_
 refine cR [0] (by kernel_rfl) ?_
 refine oP (r := []) [0] (S' := [(0, .string a0)]) (by kernel_rfl) ?_
 refine oD ?_
 refine qT ?_
 refine cQ ?_
 refine cR [0, 1, 2] (by kernel_rfl) ?_
 refine oP (r := [1, 2]) [0] (S' := [(6, .string a0)]) (by kernel_rfl) ?_
 obtain ⟨y2, hc1, h0⟩ := bindS h0
 try dsimp only at h0
 refine oC (Does.call (d := some 7) (n := 77) (vs := [.string a0]) (by kernel_rfl) en77 (c77 w0 w _ _ hI a0 _ hc1) ?_)
 rintro e w ⟨A3, cp4, rfl, hI⟩
 refine ⟨_, rfl, ?_⟩
 refine oP (r := []) [2] (S' := [(3, .slice A3 y2.length cp4)]) (by kernel_rfl) ?_
 refine oD ?_
 refine qT ?_
 refine cQ ?_
 obtain ⟨r1, h1, h0⟩ := bindS h0
 refine CodT.meet (fun a w => ∃ (x5 : Bool), x5 = r1 ∧ Fr 63 [(3, .slice A3 y2.length cp4), (30, .bool x5)] a ∧ Inv w0 Z w (star (ownS 3 (cI .i64) 1 A3 cp4 y2) A)) ?_ ?_
 ·
  refine cR [0, 1, 2, 3, 4, 5, 6, 7, 8, 9, 10, 11, 12, 13, 14, 15, 16, 17, 18, 19, 20, 21, 22] (by kernel_rfl) ?_
  refine oP (r := [4, 5, 6, 7, 8, 9, 10, 11, 12, 13, 14, 15, 16, 17, 18, 19, 20, 21, 22]) [0, 1, 2, 3] (S' := [(3, .slice A3 y2.length cp4), (11, .bool (decide ((y2.length : Int) < 1)))]) (by kernel_rfl) ?_
  by_cases hb6 : (decide ((y2.length : Int) < 1)) = true
  ·
   rw [if_pos hb6] at h1
   refine oK [3, 11] (S' := [(3, .slice A3 y2.length cp4), (11, .bool true)]) (by simp only [hb6]; kernel_rfl) ?_
   refine oP (r := []) [4, 5, 6, 7, 8, 9, 10, 11, 12, 13, 14, 15, 16, 17, 18, 19, 20, 21, 22] (S' := [(3, .slice A3 y2.length cp4), (30, .bool true)]) (by kernel_rfl) ?_
   refine oD ?_
   have e := someS h1
   subst e
   exact Qn.thenJ fun a ha => ⟨true, rfl, ha.keep [3, 30] (by kernel_rfl), hI⟩
  ·
   rw [if_neg hb6] at h1
   have hb6 : (decide ((y2.length : Int) < 1)) = false := by simpa using hb6
   refine oK [3, 11] (S' := [(3, .slice A3 y2.length cp4), (11, .bool false)]) (by simp only [hb6]; kernel_rfl) ?_
   refine oP (r := [9, 10, 11, 12, 13, 14, 15, 16, 17, 18, 19, 20, 21, 22]) [4, 5, 6, 7, 8] (S' := [(3, .slice A3 y2.length cp4), (16, .bool (decide ((y2.length : Int) > 24)))]) (by kernel_rfl) ?_
   by_cases hb7 : (decide ((y2.length : Int) > 24)) = true
   ·
    rw [if_pos hb7] at h1
    refine oK [3, 16] (S' := [(3, .slice A3 y2.length cp4), (16, .bool true)]) (by simp only [hb7]; kernel_rfl) ?_
    refine oP (r := []) [9, 10, 11, 12, 13, 14, 15, 16, 17, 18, 19, 20, 21, 22] (S' := [(3, .slice A3 y2.length cp4), (30, .bool true)]) (by kernel_rfl) ?_
    refine oD ?_
    have e := someS h1
    subst e
    exact Qn.thenJ fun a ha => ⟨true, rfl, ha.keep [3, 30] (by kernel_rfl), hI⟩
   ·
    rw [if_neg hb7] at h1
    have hb7 : (decide ((y2.length : Int) > 24)) = false := by simpa using hb7
    refine oK [3, 16] (S' := [(3, .slice A3 y2.length cp4), (16, .bool false)]) (by simp only [hb7]; kernel_rfl) ?_
    refine oP (r := [10, 11, 12, 13, 14, 15, 16, 17, 18, 19, 20, 21, 22]) [9] (S' := [(3, .slice A3 y2.length cp4), (16, .bool false), (17, .slice A3 y2.length cp4)]) (by kernel_rfl) ?_
    obtain ⟨hg8, h1⟩ := guardS h1
    obtain ⟨g9, hA10, hr11, hl12⟩ := ownS_get hI hg8.1 hg8.2
    refine oC (Does.yi (Yl.indexSlice (d := 18) (T := 95) (cc := cp4) (k := .i64) (j := 0) (g := g9) (o := 0) (by kernel_rfl) Go.Proofs.Try.underlying95 ty3 hA10 hg8.1 hg8.2) hI ?_)
    refine oC (Does.yi (Yl.load (d := 19) (T := 3) (v := iv (gt y2 0)) (by kernel_rfl) (ldR ty3 (v := iv (gt y2 0)) 0 (fun w hC => hr11 w0 w _ hC) (by kernel_rfl))) hI ?_)
    refine oP (r := [15, 16, 17, 18, 19, 20, 21, 22]) [12, 13, 14] (S' := [(3, .slice A3 y2.length cp4), (22, .bool ((gt y2 0) == 32))]) (by kernel_rfl) ?_
    by_cases hb13 : ((gt y2 0) == 32) = true
    ·
     rw [if_pos hb13] at h1
     refine oK [3, 22] (S' := [(3, .slice A3 y2.length cp4), (22, .bool true)]) (by simp only [hb13]; kernel_rfl) ?_
     refine oP (r := []) [15, 16, 17, 18, 19, 20, 21, 22] (S' := [(3, .slice A3 y2.length cp4), (30, .bool true)]) (by kernel_rfl) ?_
     refine oD ?_
     have e := someS h1
     subst e
     exact Qn.thenJ fun a ha => ⟨true, rfl, ha.keep [3, 30] (by kernel_rfl), hI⟩
    ·
     rw [if_neg hb13] at h1
     have hb13 : ((gt y2 0) == 32) = false := by simpa using hb13
     refine oK [3, 22] (S' := [(3, .slice A3 y2.length cp4), (22, .bool false)]) (by simp only [hb13]; kernel_rfl) ?_
     refine oP (r := [19, 20, 21, 22]) [15, 16, 17, 18] (S' := [(3, .slice A3 y2.length cp4), (22, .bool false), (23, .slice A3 y2.length cp4), (26, iv (wi64 ((y2.length : Int) - 1)))]) (by kernel_rfl) ?_
     obtain ⟨hg14, h1⟩ := guardS h1
     obtain ⟨g15, hA16, hr17, hl18⟩ := ownS_get hI hg14.1 hg14.2
     refine oC (Does.yi (Yl.indexSlice (d := 27) (T := 95) (cc := cp4) (k := .i64) (j := wi64 ((y2.length : Int) - 1)) (g := g15) (o := 0) (by kernel_rfl) Go.Proofs.Try.underlying95 ty3 hA16 hg14.1 hg14.2) hI ?_)
     refine oC (Does.yi (Yl.load (d := 28) (T := 3) (v := iv (gt y2 (wi64 ((y2.length : Int) - 1)))) (by kernel_rfl) (ldR ty3 (v := iv (gt y2 (wi64 ((y2.length : Int) - 1)))) 0 (fun w hC => hr17 w0 w _ hC) (by kernel_rfl))) hI ?_)
     refine oP (r := []) [21, 22] (S' := [(3, .slice A3 y2.length cp4), (30, .bool ((gt y2 (wi64 ((y2.length : Int) - 1))) == 32))]) (by kernel_rfl) ?_
     refine oD ?_
     have e := someS h1
     subst e
     exact Qn.thenJ fun a ha => ⟨(gt y2 (wi64 ((y2.length : Int) - 1))) == 32, rfl, ha.keep [3, 30] (by kernel_rfl), hI⟩
 ·
  rintro a w ⟨x5, rfl, ha, hI⟩
  try dsimp only at h0
  refine CodT.of ?_ ha
  by_cases hb19 : x5 = true
  ·
   rw [if_pos hb19] at h0
   refine CodT.yes' (b := x5) (by kernel_rfl) hb19 ?_
   refine cQ ?_
   refine cR [0] (by kernel_rfl) ?_
   refine oP (r := []) [0] (S' := [(2, .bool false)]) (by kernel_rfl) ?_
   refine oD ?_
   refine qT ?_
   refine CodT.ret ?_
   refine Qn.ret_then ?_
   have hI := hI.drop
   have e := someS h0
   subst e
   refine qK [2] (S' := [(2, .bool false)]) (by kernel_rfl) ?_
   exact post_ret (v := .bool false) (fun a ha => RunRes.run (vs := [.bool false]) (.tmp (t := 2) (by kernel_rfl) .nil) ha (by kernel_rfl)) ⟨rfl, hI⟩
  ·
   rw [if_neg hb19] at h0
   refine CodT.no' (b := x5) (by kernel_rfl) (by simpa using hb19) ?_
   refine CodT.skip ?_
   refine qT ?_
   refine cQ ?_
   refine cQ ?_
   refine cR [0] (by kernel_rfl) ?_
   refine oP (r := []) [0] (S' := [(3, .slice A3 y2.length cp4), (4, iv 0)]) (by kernel_rfl) ?_
   refine oD ?_
   refine qT ?_
   obtain ⟨r1, h1, h0⟩ := bindS h0
   refine CodT.meet1 (fun a w => .inr () = r1 ∧ Fr 63 [] a ∧ Inv w0 Z w A) ?_ ?_
   ·
    refine CodT.block ?_
    refine (fun a ha => wp_loopN (fun k a w => ∃ (x20 : Int), ref03_Valid.l0 y2 k x20 = some r1 ∧ Fr 63 [(3, .slice A3 y2.length cp4), (4, iv x20)] a ∧ Inv w0 Z w (star (ownS 3 (cI .i64) 1 A3 cp4 y2) A)) ?_ FU a w ⟨0, h1, ha.keep [3, 4] (by kernel_rfl), hI⟩)
    clear h1 hI
    rintro k a w ⟨x20, h1, ha, hI⟩
    rcases k with _ | k
    ·
     cases h1
    simp only [ref03_Valid.l0] at h1
    refine CodT.of ?_ ha
    refine cQ ?_
    refine cQ ?_
    refine cR [0, 1, 2, 3] (by kernel_rfl) ?_
    refine oP (r := []) [0, 1, 2, 3] (S' := [(3, .slice A3 y2.length cp4), (4, iv x20), (34, .bool (decide (x20 < (y2.length : Int))))]) (by kernel_rfl) ?_
    refine oD ?_
    refine qT ?_
    by_cases hb21 : (decide (x20 < (y2.length : Int))) = true
    ·
     rw [if_pos hb21] at h1
     refine CodT.yes' (b := decide (x20 < (y2.length : Int))) (by kernel_rfl) hb21 ?_
     refine CodT.skip ?_
     refine qT ?_
     refine cQ ?_
     refine CodT.block ?_
     refine cQ ?_
     refine cR [0, 1, 2, 3, 4] (by kernel_rfl) ?_
     refine oP (r := [2, 3, 4]) [0, 1] (S' := [(3, .slice A3 y2.length cp4), (4, iv x20), (37, .slice A3 y2.length cp4), (38, iv x20)]) (by kernel_rfl) ?_
     obtain ⟨hg22, h1⟩ := guardS h1
     obtain ⟨g23, hA24, hr25, hl26⟩ := ownS_get hI hg22.1 hg22.2
     refine oC (Does.yi (Yl.indexSlice (d := 39) (T := 95) (cc := cp4) (k := .i64) (j := x20) (g := g23) (o := 0) (by kernel_rfl) Go.Proofs.Try.underlying95 ty3 hA24 hg22.1 hg22.2) hI ?_)
     refine oC (Does.yi (Yl.load (d := 40) (T := 3) (v := iv (gt y2 x20)) (by kernel_rfl) (ldR ty3 (v := iv (gt y2 x20)) 0 (fun w hC => hr25 w0 w _ hC) (by kernel_rfl))) hI ?_)
     refine oP (r := []) [4] (S' := [(3, .slice A3 y2.length cp4), (4, iv x20), (5, iv (gt y2 x20))]) (by kernel_rfl) ?_
     refine oD ?_
     refine qT ?_
     obtain ⟨r2, h2, h1⟩ := bindS h1
     refine CodT.meet (fun a w => ∃ (x27 : Bool), x27 = r2 ∧ Fr 63 [(3, .slice A3 y2.length cp4), (4, iv x20), (62, .bool x27)] a ∧ Inv w0 Z w (star (ownS 3 (cI .i64) 1 A3 cp4 y2) A)) ?_ ?_
     ·
      refine cR [0, 1, 2, 3, 4, 5, 6, 7, 8, 9, 10, 11, 12, 13, 14, 15, 16, 17, 18, 19, 20, 21] (by kernel_rfl) ?_
      refine oP (r := [3, 4, 5, 6, 7, 8, 9, 10, 11, 12, 13, 14, 15, 16, 17, 18, 19, 20, 21]) [0, 1, 2] (S' := [(3, .slice A3 y2.length cp4), (4, iv x20), (5, iv (gt y2 x20)), (43, .bool (decide ((gt y2 x20) < 32)))]) (by kernel_rfl) ?_
      by_cases hb28 : (decide ((gt y2 x20) < 32)) = true
      ·
       rw [if_pos hb28] at h2
       refine oK [3, 4, 5, 43] (S' := [(3, .slice A3 y2.length cp4), (4, iv x20), (5, iv (gt y2 x20)), (43, .bool true)]) (by simp only [hb28]; kernel_rfl) ?_
       refine oP (r := []) [3, 4, 5, 6, 7, 8, 9, 10, 11, 12, 13, 14, 15, 16, 17, 18, 19, 20, 21] (S' := [(3, .slice A3 y2.length cp4), (4, iv x20), (62, .bool true)]) (by kernel_rfl) ?_
       refine oD ?_
       have e := someS h2
       subst e
       exact Qn.thenJ fun a ha => ⟨true, rfl, ha.keep [3, 4, 62] (by kernel_rfl), hI⟩
      ·
       rw [if_neg hb28] at h2
       have hb28 : (decide ((gt y2 x20) < 32)) = false := by simpa using hb28
       refine oK [3, 4, 5, 43] (S' := [(3, .slice A3 y2.length cp4), (4, iv x20), (5, iv (gt y2 x20)), (43, .bool false)]) (by simp only [hb28]; kernel_rfl) ?_
       refine oP (r := [7, 8, 9, 10, 11, 12, 13, 14, 15, 16, 17, 18, 19, 20, 21]) [3, 4, 5, 6] (S' := [(3, .slice A3 y2.length cp4), (4, iv x20), (5, iv (gt y2 x20)), (47, .bool ((gt y2 x20) == 47))]) (by kernel_rfl) ?_
       by_cases hb29 : ((gt y2 x20) == 47) = true
       ·
        rw [if_pos hb29] at h2
        refine oK [3, 4, 5, 47] (S' := [(3, .slice A3 y2.length cp4), (4, iv x20), (5, iv (gt y2 x20)), (47, .bool true)]) (by simp only [hb29]; kernel_rfl) ?_
        refine oP (r := []) [7, 8, 9, 10, 11, 12, 13, 14, 15, 16, 17, 18, 19, 20, 21] (S' := [(3, .slice A3 y2.length cp4), (4, iv x20), (62, .bool true)]) (by kernel_rfl) ?_
        refine oD ?_
        have e := someS h2
        subst e
        exact Qn.thenJ fun a ha => ⟨true, rfl, ha.keep [3, 4, 62] (by kernel_rfl), hI⟩
       ·
        rw [if_neg hb29] at h2
        have hb29 : ((gt y2 x20) == 47) = false := by simpa using hb29
        refine oK [3, 4, 5, 47] (S' := [(3, .slice A3 y2.length cp4), (4, iv x20), (5, iv (gt y2 x20)), (47, .bool false)]) (by simp only [hb29]; kernel_rfl) ?_
        refine oP (r := [10, 11, 12, 13, 14, 15, 16, 17, 18, 19, 20, 21]) [7, 8, 9] (S' := [(3, .slice A3 y2.length cp4), (4, iv x20), (5, iv (gt y2 x20)), (47, .bool false), (50, .bool (decide ((gt y2 x20) ≥ 127)))]) (by kernel_rfl) ?_
        by_cases hb30 : (decide ((gt y2 x20) ≥ 127)) = true
        ·
         rw [if_pos hb30] at h2
         refine oK [3, 4, 5, 47, 50] (S' := [(3, .slice A3 y2.length cp4), (4, iv x20), (5, iv (gt y2 x20)), (47, .bool false), (50, .bool true)]) (by simp only [hb30]; kernel_rfl) ?_
         refine oP (r := [15, 16, 17, 18, 19, 20, 21]) [10, 11, 12, 13, 14] (S' := [(3, .slice A3 y2.length cp4), (4, iv x20), (5, iv (gt y2 x20)), (55, .bool (decide ((gt y2 x20) ≤ 159)))]) (by kernel_rfl) ?_
         by_cases hb31 : (decide ((gt y2 x20) ≤ 159)) = true
         ·
          rw [if_pos hb31] at h2
          refine oK [3, 4, 5, 55] (S' := [(3, .slice A3 y2.length cp4), (4, iv x20), (5, iv (gt y2 x20)), (55, .bool true)]) (by simp only [hb31]; kernel_rfl) ?_
          refine oP (r := []) [15, 16, 17, 18, 19, 20, 21] (S' := [(3, .slice A3 y2.length cp4), (4, iv x20), (62, .bool true)]) (by kernel_rfl) ?_
          refine oD ?_
          have e := someS h2
          subst e
          exact Qn.thenJ fun a ha => ⟨true, rfl, ha.keep [3, 4, 62] (by kernel_rfl), hI⟩
         ·
          rw [if_neg hb31] at h2
          have hb31 : (decide ((gt y2 x20) ≤ 159)) = false := by simpa using hb31
          refine oK [3, 4, 5, 55] (S' := [(3, .slice A3 y2.length cp4), (4, iv x20), (5, iv (gt y2 x20)), (55, .bool false)]) (by simp only [hb31]; kernel_rfl) ?_
          refine oP (r := [19, 20, 21]) [15, 16, 17, 18] (S' := [(3, .slice A3 y2.length cp4), (4, iv x20), (5, iv (gt y2 x20)), (59, .bool ((gt y2 x20) == 65533))]) (by kernel_rfl) ?_
          by_cases hb32 : ((gt y2 x20) == 65533) = true
          ·
           rw [if_pos hb32] at h2
           refine oK [3, 4, 5, 59] (S' := [(3, .slice A3 y2.length cp4), (4, iv x20), (5, iv (gt y2 x20)), (59, .bool true)]) (by simp only [hb32]; kernel_rfl) ?_
           refine oP (r := []) [19, 20, 21] (S' := [(3, .slice A3 y2.length cp4), (4, iv x20), (62, .bool true)]) (by kernel_rfl) ?_
           refine oD ?_
           have e := someS h2
           subst e
           exact Qn.thenJ fun a ha => ⟨true, rfl, ha.keep [3, 4, 62] (by kernel_rfl), hI⟩
          ·
           rw [if_neg hb32] at h2
           have hb32 : ((gt y2 x20) == 65533) = false := by simpa using hb32
           refine oK [3, 4, 5, 59] (S' := [(3, .slice A3 y2.length cp4), (4, iv x20), (5, iv (gt y2 x20)), (59, .bool false)]) (by simp only [hb32]; kernel_rfl) ?_
           refine oP (r := []) [19, 20, 21] (S' := [(3, .slice A3 y2.length cp4), (4, iv x20), (62, .bool (decide ((gt y2 x20) ≥ 1114112)))]) (by kernel_rfl) ?_
           refine oD ?_
           have e := someS h2
           subst e
           exact Qn.thenJ fun a ha => ⟨decide ((gt y2 x20) ≥ 1114112), rfl, ha.keep [3, 4, 62] (by kernel_rfl), hI⟩
        ·
         rw [if_neg hb30] at h2
         have hb30 : (decide ((gt y2 x20) ≥ 127)) = false := by simpa using hb30
         refine oK [3, 4, 5, 47, 50] (S' := [(3, .slice A3 y2.length cp4), (4, iv x20), (5, iv (gt y2 x20)), (47, .bool false), (50, .bool false)]) (by simp only [hb30]; kernel_rfl) ?_
         refine oP (r := [19, 20, 21]) [10, 11, 12, 13, 14, 15, 16, 17, 18] (S' := [(3, .slice A3 y2.length cp4), (4, iv x20), (5, iv (gt y2 x20)), (59, .bool ((gt y2 x20) == 65533))]) (by kernel_rfl) ?_
         by_cases hb33 : ((gt y2 x20) == 65533) = true
         ·
          rw [if_pos hb33] at h2
          refine oK [3, 4, 5, 59] (S' := [(3, .slice A3 y2.length cp4), (4, iv x20), (5, iv (gt y2 x20)), (59, .bool true)]) (by simp only [hb33]; kernel_rfl) ?_
          refine oP (r := []) [19, 20, 21] (S' := [(3, .slice A3 y2.length cp4), (4, iv x20), (62, .bool true)]) (by kernel_rfl) ?_
          refine oD ?_
          have e := someS h2
          subst e
          exact Qn.thenJ fun a ha => ⟨true, rfl, ha.keep [3, 4, 62] (by kernel_rfl), hI⟩
         ·
          rw [if_neg hb33] at h2
          have hb33 : ((gt y2 x20) == 65533) = false := by simpa using hb33
          refine oK [3, 4, 5, 59] (S' := [(3, .slice A3 y2.length cp4), (4, iv x20), (5, iv (gt y2 x20)), (59, .bool false)]) (by simp only [hb33]; kernel_rfl) ?_
          refine oP (r := []) [19, 20, 21] (S' := [(3, .slice A3 y2.length cp4), (4, iv x20), (62, .bool (decide ((gt y2 x20) ≥ 1114112)))]) (by kernel_rfl) ?_
          refine oD ?_
          have e := someS h2
          subst e
          exact Qn.thenJ fun a ha => ⟨decide ((gt y2 x20) ≥ 1114112), rfl, ha.keep [3, 4, 62] (by kernel_rfl), hI⟩
     ·
      rintro a w ⟨x27, rfl, ha, hI⟩
      try dsimp only at h1
      refine CodT.of ?_ ha
      by_cases hb34 : x27 = true
      ·
       rw [if_pos hb34] at h1
       refine CodT.yes' (b := x27) (by kernel_rfl) hb34 ?_
       refine cQ ?_
       refine cR [0] (by kernel_rfl) ?_
       refine oP (r := []) [0] (S' := [(2, .bool false)]) (by kernel_rfl) ?_
       refine oD ?_
       refine qT ?_
       refine CodT.ret ?_
       refine Qn.block_ret ?_
       refine Qn.ret_then ?_
       refine Qn.ret_then ?_
       refine Qn.block_ret ?_
       refine Qn.ret_then ?_
       refine Qn.ret_then ?_
       have hI := hI.drop
       have e := someS h1
       subst e
       try dsimp only at h0
       have e := someS h0
       subst e
       refine qK [2] (S' := [(2, .bool false)]) (by kernel_rfl) ?_
       exact post_ret (v := .bool false) (fun a ha => RunRes.run (vs := [.bool false]) (.tmp (t := 2) (by kernel_rfl) .nil) ha (by kernel_rfl)) ⟨rfl, hI⟩
      ·
       rw [if_neg hb34] at h1
       refine CodT.no' (b := x27) (by kernel_rfl) (by simpa using hb34) ?_
       refine CodT.skip ?_
       refine Qn.block_normal ?_
       refine qT ?_
       refine cR [0, 1, 2] (by kernel_rfl) ?_
       refine oP (r := []) [0, 1, 2] (S' := [(3, .slice A3 y2.length cp4), (4, iv (wi64 (x20 + 1)))]) (by kernel_rfl) ?_
       refine oD ?_
       exact Qn.thenJ fun a ha => ⟨k, Nat.lt_succ_self k, wi64 (x20 + 1), h1, ha.keep [3, 4] (by kernel_rfl), hI⟩
    ·
     rw [if_neg hb21] at h1
     refine CodT.no' (b := decide (x20 < (y2.length : Int))) (by kernel_rfl) (by simpa using hb21) ?_
     refine CodT.exit ?_
     refine Qn.exit_then ?_
     refine Qn.exit_then ?_
     refine Qn.block ?_
     have hI := hI.drop
     have e := someS h1
     subst e
     exact Qn.thenJ fun a ha => ⟨rfl, ha.keep [] (by kernel_rfl), hI⟩
   ·
    rintro a w ⟨rfl, ha, hI⟩
    try dsimp only at h0
    refine Qn.of ?_ ha
    refine qT ?_
    refine cQ ?_
    refine cR [0] (by kernel_rfl) ?_
    refine oP (r := []) [0] (S' := [(2, .bool true)]) (by kernel_rfl) ?_
    refine oD ?_
    refine qT ?_
    refine CodT.ret ?_
    have e := someS h0
    subst e
    refine qK [2] (S' := [(2, .bool true)]) (by kernel_rfl) ?_
    exact post_ret (v := .bool true) (fun a ha => RunRes.run (vs := [.bool true]) (.tmp (t := 2) (by kernel_rfl) .nil) ha (by kernel_rfl)) ⟨rfl, hI⟩
/-- cenotaph/cenotaphref05.Valid -/
theorem c55 (w0 w : World) (Z : Hp) (A : HP) (hI : Inv w0 Z w A) (a0 : ApiEvent) (hl1 : a0.Sum.length = 32) (r : Bool) (h0 : ref05_Valid a0 = some r) :
  Calls prog 55 #[.agg (c_ApiEvent a0).toArray] w (fun e w' => e = .returned (.bool r) ∧ Inv w0 Z w' A) := by
 have e4 := calls_intro (R := (fun e w' => e = .returned (.bool r) ∧ Inv w0 Z w' A)) (w := w) (args := [.agg (c_ApiEvent a0).toArray]) (fn := Go.Proofs.Try.f55) 131 Go.Proofs.Try.func55 (by rfl) Go.Proofs.Try.ntmps55 (by kernel_rfl)
 refine e4 ?_
 clear e4
 unfold ref05_Valid at h0
 refine cQ ?_
 refine cR [0, 1] (by kernel_rfl) ?_
 refine oC (Does.boxL (d := 1) (T := 42) (v := .agg (c_ApiEvent a0).toArray) (c_ApiEvent a0) (by kernel_rfl) hI (by kernel_rfl) ?_)
 intro b2 w hI
 refine oP (r := []) [1] (S' := [(1, pb b2)]) (by kernel_rfl) ?_
 refine oD ?_
 refine qT ?_
 refine cQ ?_
 obtain ⟨r1, h1, h0⟩ := bindS h0
 refine CodT.meet (fun a w => ∃ (x3 : Bool), x3 = r1 ∧ Fr 131 [(1, pb b2), (18, .bool x3)] a ∧ Inv w0 Z w (star (pt b2 (.cells (c_ApiEvent a0).toArray 42 (0, 0))) A)) ?_ ?_
 ·
  refine cR [0, 1, 2, 3, 4, 5, 6, 7] (by kernel_rfl) ?_
  refine oP (r := [1, 2, 3, 4, 5, 6, 7]) [0] (S' := [(1, pb b2), (11, pb b2)]) (by kernel_rfl) ?_
  refine oC (Does.yi (Yl.load (d := 12) (T := 40) (v := iv a0.Kind) (by kernel_rfl) (ldB ty40 (l := c_ApiEvent a0) (o := 0) (v := iv a0.Kind) (ent_refl _) (by kernel_rfl))) hI ?_)
  refine oP (r := [4, 5, 6, 7]) [2, 3] (S' := [(1, pb b2), (14, .bool (decide (a0.Kind < 0)))]) (by kernel_rfl) ?_
  by_cases hb4 : (decide (a0.Kind < 0)) = true
  ·
   rw [if_pos hb4] at h1
   refine oK [1, 14] (S' := [(1, pb b2), (14, .bool true)]) (by simp only [hb4]; kernel_rfl) ?_
   refine oP (r := []) [4, 5, 6, 7] (S' := [(1, pb b2), (18, .bool true)]) (by kernel_rfl) ?_
   refine oD ?_
   have e := someS h1
   subst e
   exact Qn.thenJ fun a ha => ⟨true, rfl, ha.keep [1, 18] (by kernel_rfl), hI⟩
  ·
   rw [if_neg hb4] at h1
   have hb4 : (decide (a0.Kind < 0)) = false := by simpa using hb4
   refine oK [1, 14] (S' := [(1, pb b2), (14, .bool false)]) (by simp only [hb4]; kernel_rfl) ?_
   refine oP (r := [5, 6, 7]) [4] (S' := [(1, pb b2), (14, .bool false), (15, pb b2)]) (by kernel_rfl) ?_
   refine oC (Does.yi (Yl.load (d := 16) (T := 40) (v := iv a0.Kind) (by kernel_rfl) (ldB ty40 (l := c_ApiEvent a0) (o := 0) (v := iv a0.Kind) (ent_refl _) (by kernel_rfl))) hI ?_)
   refine oP (r := []) [6, 7] (S' := [(1, pb b2), (18, .bool (decide (a0.Kind > 7)))]) (by kernel_rfl) ?_
   refine oD ?_
   have e := someS h1
   subst e
   exact Qn.thenJ fun a ha => ⟨decide (a0.Kind > 7), rfl, ha.keep [1, 18] (by kernel_rfl), hI⟩
 ·
  rintro a w ⟨x3, rfl, ha, hI⟩
  try dsimp only at h0
  refine CodT.of ?_ ha
  by_cases hb5 : x3 = true
  ·
   rw [if_pos hb5] at h0
   refine CodT.yes' (b := x3) (by kernel_rfl) hb5 ?_
   refine cQ ?_
   refine cR [0] (by kernel_rfl) ?_
   refine oP (r := []) [0] (S' := [(2, .bool false)]) (by kernel_rfl) ?_
   refine oD ?_
   refine qT ?_
   refine CodT.ret ?_
   refine Qn.ret_then ?_
   have hI := hI.drop
   have e := someS h0
   subst e
   refine qK [2] (S' := [(2, .bool false)]) (by kernel_rfl) ?_
   exact post_ret (v := .bool false) (fun a ha => RunRes.run (vs := [.bool false]) (.tmp (t := 2) (by kernel_rfl) .nil) ha (by kernel_rfl)) ⟨rfl, hI⟩
  ·
   rw [if_neg hb5] at h0
   refine CodT.no' (b := x3) (by kernel_rfl) (by simpa using hb5) ?_
   refine CodT.skip ?_
   refine qT ?_
   refine cQ ?_
   refine cR [0, 1, 2, 3, 4] (by kernel_rfl) ?_
   refine oP (r := [1, 2, 3, 4]) [0] (S' := [(1, pb b2), (19, pb b2)]) (by kernel_rfl) ?_
   refine oC (Does.yi (Yl.load (d := 20) (T := 40) (v := iv a0.Kind) (by kernel_rfl) (ldB ty40 (l := c_ApiEvent a0) (o := 0) (v := iv a0.Kind) (ent_refl _) (by kernel_rfl))) hI ?_)
   obtain ⟨y7, hc6, h0⟩ := bindS h0
   try dsimp only at h0
   refine oC (Does.call (d := some 21) (n := 56) (vs := [iv a0.Kind]) (by kernel_rfl) en56 (c56 w0 w _ _ hI a0.Kind _ hc6) ?_)
   rintro e w ⟨rfl, hl8, hI⟩
   refine ⟨_, rfl, ?_⟩
   refine oC (Does.allocL (d := 3) (T := 102) (cA Value.bool (List.replicate 5 (false : Bool))) (by kernel_rfl) ty102 hI (by kernel_rfl) ?_)
   intro b9 w hI
   refine oC (Does.storeAll (T := 102) (b := b9) (n := 5) (xs := (List.replicate 5 (false : Bool))) (ys := y7) (by kernel_rfl) ty102 hI (fun _ => rfl) (by kernel_rfl) hl8 ?_)
   intro w hI
   refine oD ?_
   refine qT ?_
   refine cQ ?_
   refine cR [0] (by kernel_rfl) ?_
   refine oP (r := []) [0] (S' := [(1, pb b2), (3, pb b9), (4, iv 0)]) (by kernel_rfl) ?_
   refine oD ?_
   refine qT ?_
   obtain ⟨r1, h1, h0⟩ := bindS h0
   refine CodT.meet (fun a w => ∃ (x10 : Int), x10 = r1 ∧ Fr 131 [(1, pb b2), (3, pb b9), (4, iv x10)] a ∧ Inv w0 Z w (star (pt b9 (.cells (cA Value.bool y7).toArray 102 (0, 0))) (star (pt b2 (.cells (c_ApiEvent a0).toArray 42 (0, 0))) A))) ?_ ?_
   ·
    refine cQ ?_
    refine cR [0, 1, 2] (by kernel_rfl) ?_
    refine oP (r := [1, 2]) [0] (S' := [(1, pb b2), (3, pb b9), (4, iv 0), (22, pb b2)]) (by kernel_rfl) ?_
    refine oC (Does.yi (Yl.load (d := 23) (T := 40) (v := iv a0.Kind) (by kernel_rfl) (ldB ty40 (l := c_ApiEvent a0) (o := 0) (v := iv a0.Kind) (pick2 _ _ _) (by kernel_rfl))) hI ?_)
    refine oP (r := []) [2] (S' := [(1, pb b2), (3, pb b9), (4, iv 0), (24, .bool (a0.Kind == 1))]) (by kernel_rfl) ?_
    refine oD ?_
    refine qT ?_
    by_cases hb11 : (a0.Kind == 1) = true
    ·
     rw [if_pos hb11] at h1
     refine CodT.yes' (b := a0.Kind == 1) (by kernel_rfl) hb11 ?_
     refine cR [0] (by kernel_rfl) ?_
     refine oP (r := []) [0] (S' := [(1, pb b2), (3, pb b9), (4, iv 1)]) (by kernel_rfl) ?_
     refine oD ?_
     have e := someS h1
     subst e
     exact Qn.thenJ fun a ha => ⟨1, rfl, ha.keep [1, 3, 4] (by kernel_rfl), hI⟩
    ·
     rw [if_neg hb11] at h1
     refine CodT.no' (b := a0.Kind == 1) (by kernel_rfl) (by simpa using hb11) ?_
     refine CodT.skip ?_
     have e := someS h1
     subst e
     exact Qn.thenJ fun a ha => ⟨0, rfl, ha.keep [1, 3, 4] (by kernel_rfl), hI⟩
   ·
    rintro a w ⟨x10, rfl, ha, hI⟩
    try dsimp only at h0
    refine CodT.of ?_ ha
    refine cQ ?_
    refine cR [0, 1, 2, 3] (by kernel_rfl) ?_
    refine oP (r := [1, 2, 3]) [0] (S' := [(1, pb b2), (3, pb b9), (4, iv x10), (25, .pointer (some ⟨b2, 2, none⟩))]) (by kernel_rfl) ?_
    refine oC (Does.yi (Yl.load (d := 26) (T := 9) (v := .string a0.Name) (by kernel_rfl) (ldB ty9 (l := c_ApiEvent a0) (o := 2) (v := .string a0.Name) (pick2 _ _ _) (by kernel_rfl))) hI ?_)
    obtain ⟨y13, hc12, h0⟩ := bindS h0
    try dsimp only at h0
    refine oC (Does.call (d := some 27) (n := 73) (vs := [.string a0.Name]) (by kernel_rfl) en73 (c73 w0 w _ _ hI a0.Name _ hc12) ?_)
    rintro e w ⟨rfl, hI⟩
    refine ⟨_, rfl, ?_⟩
    refine oP (r := []) [3] (S' := [(1, pb b2), (3, pb b9), (4, iv x10), (5, .bool y13)]) (by kernel_rfl) ?_
    refine oD ?_
    refine qT ?_
    obtain ⟨r1, h1, h0⟩ := bindS h0
    refine CodT.meet (fun a w => ∃ (x14 : Bool), x14 = r1 ∧ Fr 131 [(1, pb b2), (3, pb b9), (4, iv x10), (5, .bool y13), (6, .bool x14)] a ∧ Inv w0 Z w (star (pt b9 (.cells (cA Value.bool y7).toArray 102 (0, 0))) (star (pt b2 (.cells (c_ApiEvent a0).toArray 42 (0, 0))) A))) ?_ ?_
    ·
     refine cR [0, 1, 2, 3, 4, 5, 6, 7, 8, 9, 10, 11, 12, 13, 14, 15, 16, 17, 18, 19, 20, 21, 22] (by kernel_rfl) ?_
     refine oP (r := [1, 2, 3, 4, 5, 6, 7, 8, 9, 10, 11, 12, 13, 14, 15, 16, 17, 18, 19, 20, 21, 22]) [0] (S' := [(1, pb b2), (3, pb b9), (4, iv x10), (5, .bool y13), (28, pb b9)]) (by kernel_rfl) ?_
     refine oC (Does.yi (Yl.load (d := 29) (T := 4) (v := .bool (gt y7 0)) (by kernel_rfl) (ldB ty4 (l := cA Value.bool y7) (o := 0) (v := .bool (gt y7 0)) (ent_refl _) (arr_getC _ _ 0 hl8 (by kernel_rfl)))) hI ?_)
     refine oP (r := [3, 4, 5, 6, 7, 8, 9, 10, 11, 12, 13, 14, 15, 16, 17, 18, 19, 20, 21, 22]) [2] (S' := [(1, pb b2), (3, pb b9), (4, iv x10), (5, .bool y13), (30, .bool (gt y7 0))]) (by kernel_rfl) ?_
     by_cases hb15 : (gt y7 0) = true
     ·
      rw [if_pos hb15] at h1
      refine oK [1, 3, 4, 5, 30] (S' := [(1, pb b2), (3, pb b9), (4, iv x10), (5, .bool y13), (30, .bool true)]) (by simp only [hb15]; kernel_rfl) ?_
      refine oP (r := [4, 5, 6, 7, 8, 9, 10, 11, 12, 13, 14, 15, 16, 17, 18, 19, 20, 21, 22]) [3] (S' := [(1, pb b2), (3, pb b9), (4, iv x10), (5, .bool y13), (30, .bool true), (31, .pointer (some ⟨b2, 1, none⟩))]) (by kernel_rfl) ?_
      refine oC (Does.yi (Yl.load (d := 32) (T := 3) (v := iv a0.ID) (by kernel_rfl) (ldB ty3 (l := c_ApiEvent a0) (o := 1) (v := iv a0.ID) (pick2 _ _ _) (by kernel_rfl))) hI ?_)
      refine oP (r := [8, 9, 10, 11, 12, 13, 14, 15, 16, 17, 18, 19, 20, 21, 22]) [5, 6, 7] (S' := [(1, pb b2), (3, pb b9), (4, iv x10), (5, .bool y13), (35, .bool (decide (a0.ID ≥ 1)))]) (by kernel_rfl) ?_
      by_cases hb16 : (decide (a0.ID ≥ 1)) = true
      ·
       rw [if_pos hb16] at h1
       refine oK [1, 3, 4, 5, 35] (S' := [(1, pb b2), (3, pb b9), (4, iv x10), (5, .bool y13), (35, .bool true)]) (by simp only [hb16]; kernel_rfl) ?_
       refine oP (r := [9, 10, 11, 12, 13, 14, 15, 16, 17, 18, 19, 20, 21, 22]) [8] (S' := [(1, pb b2), (3, pb b9), (4, iv x10), (5, .bool y13), (35, .bool true), (36, .pointer (some ⟨b2, 1, none⟩))]) (by kernel_rfl) ?_
       refine oC (Does.yi (Yl.load (d := 37) (T := 3) (v := iv a0.ID) (by kernel_rfl) (ldB ty3 (l := c_ApiEvent a0) (o := 1) (v := iv a0.ID) (pick2 _ _ _) (by kernel_rfl))) hI ?_)
       refine oP (r := [13, 14, 15, 16, 17, 18, 19, 20, 21, 22]) [10, 11, 12] (S' := [(1, pb b2), (3, pb b9), (4, iv x10), (5, .bool y13), (40, .bool (decide (a0.ID ≤ 1099511627776)))]) (by kernel_rfl) ?_
       by_cases hb17 : (decide (a0.ID ≤ 1099511627776)) = true
       ·
        rw [if_pos hb17] at h1
        refine oK [1, 3, 4, 5, 40] (S' := [(1, pb b2), (3, pb b9), (4, iv x10), (5, .bool y13), (40, .bool true)]) (by simp only [hb17]; kernel_rfl) ?_
        refine oP (r := []) [13, 14, 15, 16, 17, 18, 19, 20, 21, 22] (S' := [(1, pb b2), (3, pb b9), (4, iv x10), (5, .bool y13), (6, .bool true)]) (by kernel_rfl) ?_
        refine oD ?_
        have e := someS h1
        subst e
        exact Qn.thenJ fun a ha => ⟨true, rfl, ha.keep [1, 3, 4, 5, 6] (by kernel_rfl), hI⟩
       ·
        rw [if_neg hb17] at h1
        have hb17 : (decide (a0.ID ≤ 1099511627776)) = false := by simpa using hb17
        refine oK [1, 3, 4, 5, 40] (S' := [(1, pb b2), (3, pb b9), (4, iv x10), (5, .bool y13), (40, .bool false)]) (by simp only [hb17]; kernel_rfl) ?_
        refine oP (r := [14, 15, 16, 17, 18, 19, 20, 21, 22]) [13] (S' := [(1, pb b2), (3, pb b9), (4, iv x10), (5, .bool y13), (40, .bool false), (41, pb b9)]) (by kernel_rfl) ?_
        refine oC (Does.yi (Yl.load (d := 42) (T := 4) (v := .bool (gt y7 0)) (by kernel_rfl) (ldB ty4 (l := cA Value.bool y7) (o := 0) (v := .bool (gt y7 0)) (ent_refl _) (arr_getC _ _ 0 hl8 (by kernel_rfl)))) hI ?_)
        refine oP (r := [17, 18, 19, 20, 21, 22]) [15, 16] (S' := [(1, pb b2), (3, pb b9), (4, iv x10), (5, .bool y13), (40, .bool false), (44, .bool (!(gt y7 0)))]) (by kernel_rfl) ?_
        by_cases hb18 : (!(gt y7 0)) = true
        ·
         rw [if_pos hb18] at h1
         refine oK [1, 3, 4, 5, 40, 44] (S' := [(1, pb b2), (3, pb b9), (4, iv x10), (5, .bool y13), (40, .bool false), (44, .bool true)]) (by simp only [hb18]; kernel_rfl) ?_
         refine oP (r := [18, 19, 20, 21, 22]) [17] (S' := [(1, pb b2), (3, pb b9), (4, iv x10), (5, .bool y13), (40, .bool false), (44, .bool true), (45, .pointer (some ⟨b2, 1, none⟩))]) (by kernel_rfl) ?_
         refine oC (Does.yi (Yl.load (d := 46) (T := 3) (v := iv a0.ID) (by kernel_rfl) (ldB ty3 (l := c_ApiEvent a0) (o := 1) (v := iv a0.ID) (pick2 _ _ _) (by kernel_rfl))) hI ?_)
         refine oP (r := []) [19, 20, 21, 22] (S' := [(1, pb b2), (3, pb b9), (4, iv x10), (5, .bool y13), (6, .bool (a0.ID == 0))]) (by kernel_rfl) ?_
         refine oD ?_
         have e := someS h1
         subst e
         exact Qn.thenJ fun a ha => ⟨a0.ID == 0, rfl, ha.keep [1, 3, 4, 5, 6] (by kernel_rfl), hI⟩
        ·
         rw [if_neg hb18] at h1
         have hb18 : (!(gt y7 0)) = false := by simpa using hb18
         refine oK [1, 3, 4, 5, 40, 44] (S' := [(1, pb b2), (3, pb b9), (4, iv x10), (5, .bool y13), (40, .bool false), (44, .bool false)]) (by simp only [hb18]; kernel_rfl) ?_
         refine oP (r := []) [17, 18, 19, 20, 21, 22] (S' := [(1, pb b2), (3, pb b9), (4, iv x10), (5, .bool y13), (6, .bool false)]) (by kernel_rfl) ?_
         refine oD ?_
         have e := someS h1
         subst e
         exact Qn.thenJ fun a ha => ⟨false, rfl, ha.keep [1, 3, 4, 5, 6] (by kernel_rfl), hI⟩
      ·
       rw [if_neg hb16] at h1
       have hb16 : (decide (a0.ID ≥ 1)) = false := by simpa using hb16
       refine oK [1, 3, 4, 5, 35] (S' := [(1, pb b2), (3, pb b9), (4, iv x10), (5, .bool y13), (35, .bool false)]) (by simp only [hb16]; kernel_rfl) ?_
       refine oP (r := [14, 15, 16, 17, 18, 19, 20, 21, 22]) [8, 9, 10, 11, 12, 13] (S' := [(1, pb b2), (3, pb b9), (4, iv x10), (5, .bool y13), (40, .bool false), (41, pb b9)]) (by kernel_rfl) ?_
       refine oC (Does.yi (Yl.load (d := 42) (T := 4) (v := .bool (gt y7 0)) (by kernel_rfl) (ldB ty4 (l := cA Value.bool y7) (o := 0) (v := .bool (gt y7 0)) (ent_refl _) (arr_getC _ _ 0 hl8 (by kernel_rfl)))) hI ?_)
       refine oP (r := [17, 18, 19, 20, 21, 22]) [15, 16] (S' := [(1, pb b2), (3, pb b9), (4, iv x10), (5, .bool y13), (40, .bool false), (44, .bool (!(gt y7 0)))]) (by kernel_rfl) ?_
       by_cases hb19 : (!(gt y7 0)) = true
       ·
        rw [if_pos hb19] at h1
        refine oK [1, 3, 4, 5, 40, 44] (S' := [(1, pb b2), (3, pb b9), (4, iv x10), (5, .bool y13), (40, .bool false), (44, .bool true)]) (by simp only [hb19]; kernel_rfl) ?_
        refine oP (r := [18, 19, 20, 21, 22]) [17] (S' := [(1, pb b2), (3, pb b9), (4, iv x10), (5, .bool y13), (40, .bool false), (44, .bool true), (45, .pointer (some ⟨b2, 1, none⟩))]) (by kernel_rfl) ?_
        refine oC (Does.yi (Yl.load (d := 46) (T := 3) (v := iv a0.ID) (by kernel_rfl) (ldB ty3 (l := c_ApiEvent a0) (o := 1) (v := iv a0.ID) (pick2 _ _ _) (by kernel_rfl))) hI ?_)
        refine oP (r := []) [19, 20, 21, 22] (S' := [(1, pb b2), (3, pb b9), (4, iv x10), (5, .bool y13), (6, .bool (a0.ID == 0))]) (by kernel_rfl) ?_
        refine oD ?_
        have e := someS h1
        subst e
        exact Qn.thenJ fun a ha => ⟨a0.ID == 0, rfl, ha.keep [1, 3, 4, 5, 6] (by kernel_rfl), hI⟩
       ·
        rw [if_neg hb19] at h1
        have hb19 : (!(gt y7 0)) = false := by simpa using hb19
        refine oK [1, 3, 4, 5, 40, 44] (S' := [(1, pb b2), (3, pb b9), (4, iv x10), (5, .bool y13), (40, .bool false), (44, .bool false)]) (by simp only [hb19]; kernel_rfl) ?_
        refine oP (r := []) [17, 18, 19, 20, 21, 22] (S' := [(1, pb b2), (3, pb b9), (4, iv x10), (5, .bool y13), (6, .bool false)]) (by kernel_rfl) ?_
        refine oD ?_
        have e := someS h1
        subst e
        exact Qn.thenJ fun a ha => ⟨false, rfl, ha.keep [1, 3, 4, 5, 6] (by kernel_rfl), hI⟩
     ·
      rw [if_neg hb15] at h1
      have hb15 : (gt y7 0) = false := by simpa using hb15
      refine oK [1, 3, 4, 5, 30] (S' := [(1, pb b2), (3, pb b9), (4, iv x10), (5, .bool y13), (30, .bool false)]) (by simp only [hb15]; kernel_rfl) ?_
      refine oP (r := [14, 15, 16, 17, 18, 19, 20, 21, 22]) [3, 4, 5, 6, 7, 8, 9, 10, 11, 12, 13] (S' := [(1, pb b2), (3, pb b9), (4, iv x10), (5, .bool y13), (40, .bool false), (41, pb b9)]) (by kernel_rfl) ?_
      refine oC (Does.yi (Yl.load (d := 42) (T := 4) (v := .bool (gt y7 0)) (by kernel_rfl) (ldB ty4 (l := cA Value.bool y7) (o := 0) (v := .bool (gt y7 0)) (ent_refl _) (arr_getC _ _ 0 hl8 (by kernel_rfl)))) hI ?_)
      refine oP (r := [17, 18, 19, 20, 21, 22]) [15, 16] (S' := [(1, pb b2), (3, pb b9), (4, iv x10), (5, .bool y13), (40, .bool false), (44, .bool (!(gt y7 0)))]) (by kernel_rfl) ?_
      by_cases hb20 : (!(gt y7 0)) = true
      ·
       rw [if_pos hb20] at h1
       refine oK [1, 3, 4, 5, 40, 44] (S' := [(1, pb b2), (3, pb b9), (4, iv x10), (5, .bool y13), (40, .bool false), (44, .bool true)]) (by simp only [hb20]; kernel_rfl) ?_
       refine oP (r := [18, 19, 20, 21, 22]) [17] (S' := [(1, pb b2), (3, pb b9), (4, iv x10), (5, .bool y13), (40, .bool false), (44, .bool true), (45, .pointer (some ⟨b2, 1, none⟩))]) (by kernel_rfl) ?_
       refine oC (Does.yi (Yl.load (d := 46) (T := 3) (v := iv a0.ID) (by kernel_rfl) (ldB ty3 (l := c_ApiEvent a0) (o := 1) (v := iv a0.ID) (pick2 _ _ _) (by kernel_rfl))) hI ?_)
       refine oP (r := []) [19, 20, 21, 22] (S' := [(1, pb b2), (3, pb b9), (4, iv x10), (5, .bool y13), (6, .bool (a0.ID == 0))]) (by kernel_rfl) ?_
       refine oD ?_
       have e := someS h1
       subst e
       exact Qn.thenJ fun a ha => ⟨a0.ID == 0, rfl, ha.keep [1, 3, 4, 5, 6] (by kernel_rfl), hI⟩
      ·
       rw [if_neg hb20] at h1
       have hb20 : (!(gt y7 0)) = false := by simpa using hb20
       refine oK [1, 3, 4, 5, 40, 44] (S' := [(1, pb b2), (3, pb b9), (4, iv x10), (5, .bool y13), (40, .bool false), (44, .bool false)]) (by simp only [hb20]; kernel_rfl) ?_
       refine oP (r := []) [17, 18, 19, 20, 21, 22] (S' := [(1, pb b2), (3, pb b9), (4, iv x10), (5, .bool y13), (6, .bool false)]) (by kernel_rfl) ?_
       refine oD ?_
       have e := someS h1
       subst e
       exact Qn.thenJ fun a ha => ⟨false, rfl, ha.keep [1, 3, 4, 5, 6] (by kernel_rfl), hI⟩
    ·
     rintro a w ⟨x14, rfl, ha, hI⟩
     try dsimp only at h0
     refine CodT.of ?_ ha
     obtain ⟨r1, h1, h0⟩ := bindS h0
     refine CodT.meet (fun a w => ∃ (x21 : Bool), x21 = r1 ∧ Fr 131 [(1, pb b2), (3, pb b9), (4, iv x10), (6, .bool x14), (7, .bool x21)] a ∧ Inv w0 Z w (star (pt b9 (.cells (cA Value.bool y7).toArray 102 (0, 0))) (star (pt b2 (.cells (c_ApiEvent a0).toArray 42 (0, 0))) A))) ?_ ?_
     ·
      refine cR [0, 1, 2, 3, 4, 5, 6, 7, 8, 9, 10, 11, 12, 13, 14, 15] (by kernel_rfl) ?_
      refine oP (r := [1, 2, 3, 4, 5, 6, 7, 8, 9, 10, 11, 12, 13, 14, 15]) [0] (S' := [(1, pb b2), (3, pb b9), (4, iv x10), (5, .bool y13), (6, .bool x14), (50, .pointer (some ⟨b9, 1, none⟩))]) (by kernel_rfl) ?_
      refine oC (Does.yi (Yl.load (d := 51) (T := 4) (v := .bool (gt y7 1)) (by kernel_rfl) (ldB ty4 (l := cA Value.bool y7) (o := 1) (v := .bool (gt y7 1)) (ent_refl _) (arr_getC _ _ 1 hl8 (by kernel_rfl)))) hI ?_)
      refine oP (r := [3, 4, 5, 6, 7, 8, 9, 10, 11, 12, 13, 14, 15]) [2] (S' := [(1, pb b2), (3, pb b9), (4, iv x10), (5, .bool y13), (6, .bool x14), (52, .bool (gt y7 1))]) (by kernel_rfl) ?_
      by_cases hb22 : (gt y7 1) = true
      ·
       rw [if_pos hb22] at h1
       refine oK [1, 3, 4, 5, 6, 52] (S' := [(1, pb b2), (3, pb b9), (4, iv x10), (5, .bool y13), (6, .bool x14), (52, .bool true)]) (by simp only [hb22]; kernel_rfl) ?_
       refine oP (r := [6, 7, 8, 9, 10, 11, 12, 13, 14, 15]) [3, 4, 5] (S' := [(1, pb b2), (3, pb b9), (4, iv x10), (6, .bool x14), (55, .bool y13)]) (by kernel_rfl) ?_
       by_cases hb23 : y13 = true
       ·
        rw [if_pos hb23] at h1
        refine oK [1, 3, 4, 6, 55] (S' := [(1, pb b2), (3, pb b9), (4, iv x10), (6, .bool x14), (55, .bool true)]) (by simp only [hb23]; kernel_rfl) ?_
        refine oP (r := []) [6, 7, 8, 9, 10, 11, 12, 13, 14, 15] (S' := [(1, pb b2), (3, pb b9), (4, iv x10), (6, .bool x14), (7, .bool true)]) (by kernel_rfl) ?_
        refine oD ?_
        have e := someS h1
        subst e
        exact Qn.thenJ fun a ha => ⟨true, rfl, ha.keep [1, 3, 4, 6, 7] (by kernel_rfl), hI⟩
       ·
        rw [if_neg hb23] at h1
        have hb23 : y13 = false := by simpa using hb23
        refine oK [1, 3, 4, 6, 55] (S' := [(1, pb b2), (3, pb b9), (4, iv x10), (6, .bool x14), (55, .bool false)]) (by simp only [hb23]; kernel_rfl) ?_
        refine oP (r := [7, 8, 9, 10, 11, 12, 13, 14, 15]) [6] (S' := [(1, pb b2), (3, pb b9), (4, iv x10), (6, .bool x14), (55, .bool false), (56, .pointer (some ⟨b9, 1, none⟩))]) (by kernel_rfl) ?_
        refine oC (Does.yi (Yl.load (d := 57) (T := 4) (v := .bool (gt y7 1)) (by kernel_rfl) (ldB ty4 (l := cA Value.bool y7) (o := 1) (v := .bool (gt y7 1)) (ent_refl _) (arr_getC _ _ 1 hl8 (by kernel_rfl)))) hI ?_)
        refine oP (r := [10, 11, 12, 13, 14, 15]) [8, 9] (S' := [(1, pb b2), (3, pb b9), (4, iv x10), (6, .bool x14), (55, .bool false), (59, .bool (!(gt y7 1)))]) (by kernel_rfl) ?_
        by_cases hb24 : (!(gt y7 1)) = true
        ·
         rw [if_pos hb24] at h1
         refine oK [1, 3, 4, 6, 55, 59] (S' := [(1, pb b2), (3, pb b9), (4, iv x10), (6, .bool x14), (55, .bool false), (59, .bool true)]) (by simp only [hb24]; kernel_rfl) ?_
         refine oP (r := [11, 12, 13, 14, 15]) [10] (S' := [(1, pb b2), (3, pb b9), (4, iv x10), (6, .bool x14), (55, .bool false), (59, .bool true), (60, .pointer (some ⟨b2, 2, none⟩))]) (by kernel_rfl) ?_
         refine oC (Does.yi (Yl.load (d := 61) (T := 9) (v := .string a0.Name) (by kernel_rfl) (ldB ty9 (l := c_ApiEvent a0) (o := 2) (v := .string a0.Name) (pick2 _ _ _) (by kernel_rfl))) hI ?_)
         refine oP (r := []) [12, 13, 14, 15] (S' := [(1, pb b2), (3, pb b9), (4, iv x10), (6, .bool x14), (7, .bool (seq a0.Name (⟨#[]⟩ : ByteArray)))]) (by kernel_rfl) ?_
         refine oD ?_
         have e := someS h1
         subst e
         exact Qn.thenJ fun a ha => ⟨seq a0.Name (⟨#[]⟩ : ByteArray), rfl, ha.keep [1, 3, 4, 6, 7] (by kernel_rfl), hI⟩
        ·
         rw [if_neg hb24] at h1
         have hb24 : (!(gt y7 1)) = false := by simpa using hb24
         refine oK [1, 3, 4, 6, 55, 59] (S' := [(1, pb b2), (3, pb b9), (4, iv x10), (6, .bool x14), (55, .bool false), (59, .bool false)]) (by simp only [hb24]; kernel_rfl) ?_
         refine oP (r := []) [10, 11, 12, 13, 14, 15] (S' := [(1, pb b2), (3, pb b9), (4, iv x10), (6, .bool x14), (7, .bool false)]) (by kernel_rfl) ?_
         refine oD ?_
         have e := someS h1
         subst e
         exact Qn.thenJ fun a ha => ⟨false, rfl, ha.keep [1, 3, 4, 6, 7] (by kernel_rfl), hI⟩
      ·
       rw [if_neg hb22] at h1
       have hb22 : (gt y7 1) = false := by simpa using hb22
       refine oK [1, 3, 4, 5, 6, 52] (S' := [(1, pb b2), (3, pb b9), (4, iv x10), (5, .bool y13), (6, .bool x14), (52, .bool false)]) (by simp only [hb22]; kernel_rfl) ?_
       refine oP (r := [7, 8, 9, 10, 11, 12, 13, 14, 15]) [3, 4, 5, 6] (S' := [(1, pb b2), (3, pb b9), (4, iv x10), (6, .bool x14), (55, .bool false), (56, .pointer (some ⟨b9, 1, none⟩))]) (by kernel_rfl) ?_
       refine oC (Does.yi (Yl.load (d := 57) (T := 4) (v := .bool (gt y7 1)) (by kernel_rfl) (ldB ty4 (l := cA Value.bool y7) (o := 1) (v := .bool (gt y7 1)) (ent_refl _) (arr_getC _ _ 1 hl8 (by kernel_rfl)))) hI ?_)
       refine oP (r := [10, 11, 12, 13, 14, 15]) [8, 9] (S' := [(1, pb b2), (3, pb b9), (4, iv x10), (6, .bool x14), (55, .bool false), (59, .bool (!(gt y7 1)))]) (by kernel_rfl) ?_
       by_cases hb25 : (!(gt y7 1)) = true
       ·
        rw [if_pos hb25] at h1
        refine oK [1, 3, 4, 6, 55, 59] (S' := [(1, pb b2), (3, pb b9), (4, iv x10), (6, .bool x14), (55, .bool false), (59, .bool true)]) (by simp only [hb25]; kernel_rfl) ?_
        refine oP (r := [11, 12, 13, 14, 15]) [10] (S' := [(1, pb b2), (3, pb b9), (4, iv x10), (6, .bool x14), (55, .bool false), (59, .bool true), (60, .pointer (some ⟨b2, 2, none⟩))]) (by kernel_rfl) ?_
        refine oC (Does.yi (Yl.load (d := 61) (T := 9) (v := .string a0.Name) (by kernel_rfl) (ldB ty9 (l := c_ApiEvent a0) (o := 2) (v := .string a0.Name) (pick2 _ _ _) (by kernel_rfl))) hI ?_)
        refine oP (r := []) [12, 13, 14, 15] (S' := [(1, pb b2), (3, pb b9), (4, iv x10), (6, .bool x14), (7, .bool (seq a0.Name (⟨#[]⟩ : ByteArray)))]) (by kernel_rfl) ?_
        refine oD ?_
        have e := someS h1
        subst e
        exact Qn.thenJ fun a ha => ⟨seq a0.Name (⟨#[]⟩ : ByteArray), rfl, ha.keep [1, 3, 4, 6, 7] (by kernel_rfl), hI⟩
       ·
        rw [if_neg hb25] at h1
        have hb25 : (!(gt y7 1)) = false := by simpa using hb25
        refine oK [1, 3, 4, 6, 55, 59] (S' := [(1, pb b2), (3, pb b9), (4, iv x10), (6, .bool x14), (55, .bool false), (59, .bool false)]) (by simp only [hb25]; kernel_rfl) ?_
        refine oP (r := []) [10, 11, 12, 13, 14, 15] (S' := [(1, pb b2), (3, pb b9), (4, iv x10), (6, .bool x14), (7, .bool false)]) (by kernel_rfl) ?_
        refine oD ?_
        have e := someS h1
        subst e
        exact Qn.thenJ fun a ha => ⟨false, rfl, ha.keep [1, 3, 4, 6, 7] (by kernel_rfl), hI⟩
     ·
      rintro a w ⟨x21, rfl, ha, hI⟩
      try dsimp only at h0
      refine CodT.of ?_ ha
      obtain ⟨r1, h1, h0⟩ := bindS h0
      refine CodT.meet (fun a w => ∃ (x26 : Bool), x26 = r1 ∧ Fr 131 [(1, pb b2), (3, pb b9), (4, iv x10), (6, .bool x14), (7, .bool x21), (8, .bool x26)] a ∧ Inv w0 Z w (star (pt b9 (.cells (cA Value.bool y7).toArray 102 (0, 0))) (star (pt b2 (.cells (c_ApiEvent a0).toArray 42 (0, 0))) A))) ?_ ?_
      ·
       refine cR [0, 1, 2, 3, 4, 5, 6, 7, 8, 9, 10, 11, 12, 13, 14, 15, 16, 17, 18, 19, 20, 21, 22] (by kernel_rfl) ?_
       refine oP (r := [1, 2, 3, 4, 5, 6, 7, 8, 9, 10, 11, 12, 13, 14, 15, 16, 17, 18, 19, 20, 21, 22]) [0] (S' := [(1, pb b2), (3, pb b9), (4, iv x10), (6, .bool x14), (7, .bool x21), (65, .pointer (some ⟨b9, 2, none⟩))]) (by kernel_rfl) ?_
       refine oC (Does.yi (Yl.load (d := 66) (T := 4) (v := .bool (gt y7 2)) (by kernel_rfl) (ldB ty4 (l := cA Value.bool y7) (o := 2) (v := .bool (gt y7 2)) (ent_refl _) (arr_getC _ _ 2 hl8 (by kernel_rfl)))) hI ?_)
       refine oP (r := [3, 4, 5, 6, 7, 8, 9, 10, 11, 12, 13, 14, 15, 16, 17, 18, 19, 20, 21, 22]) [2] (S' := [(1, pb b2), (3, pb b9), (4, iv x10), (6, .bool x14), (7, .bool x21), (67, .bool (gt y7 2))]) (by kernel_rfl) ?_
       by_cases hb27 : (gt y7 2) = true
       ·
        rw [if_pos hb27] at h1
        refine oK [1, 3, 4, 6, 7, 67] (S' := [(1, pb b2), (3, pb b9), (4, iv x10), (6, .bool x14), (7, .bool x21), (67, .bool true)]) (by simp only [hb27]; kernel_rfl) ?_
        refine oP (r := [4, 5, 6, 7, 8, 9, 10, 11, 12, 13, 14, 15, 16, 17, 18, 19, 20, 21, 22]) [3] (S' := [(1, pb b2), (3, pb b9), (4, iv x10), (6, .bool x14), (7, .bool x21), (67, .bool true), (68, .pointer (some ⟨b2, 3, none⟩))]) (by kernel_rfl) ?_
        refine oC (Does.yi (Yl.load (d := 69) (T := 3) (v := iv a0.Time) (by kernel_rfl) (ldB ty3 (l := c_ApiEvent a0) (o := 3) (v := iv a0.Time) (pick2 _ _ _) (by kernel_rfl))) hI ?_)
        refine oP (r := [8, 9, 10, 11, 12, 13, 14, 15, 16, 17, 18, 19, 20, 21, 22]) [5, 6, 7] (S' := [(1, pb b2), (3, pb b9), (4, iv x10), (6, .bool x14), (7, .bool x21), (72, .bool (decide (a0.Time ≥ 0)))]) (by kernel_rfl) ?_
        by_cases hb28 : (decide (a0.Time ≥ 0)) = true
        ·
         rw [if_pos hb28] at h1
         refine oK [1, 3, 4, 6, 7, 72] (S' := [(1, pb b2), (3, pb b9), (4, iv x10), (6, .bool x14), (7, .bool x21), (72, .bool true)]) (by simp only [hb28]; kernel_rfl) ?_
         refine oP (r := [9, 10, 11, 12, 13, 14, 15, 16, 17, 18, 19, 20, 21, 22]) [8] (S' := [(1, pb b2), (3, pb b9), (4, iv x10), (6, .bool x14), (7, .bool x21), (72, .bool true), (73, .pointer (some ⟨b2, 3, none⟩))]) (by kernel_rfl) ?_
         refine oC (Does.yi (Yl.load (d := 74) (T := 3) (v := iv a0.Time) (by kernel_rfl) (ldB ty3 (l := c_ApiEvent a0) (o := 3) (v := iv a0.Time) (pick2 _ _ _) (by kernel_rfl))) hI ?_)
         refine oP (r := [13, 14, 15, 16, 17, 18, 19, 20, 21, 22]) [10, 11, 12] (S' := [(1, pb b2), (3, pb b9), (4, iv x10), (6, .bool x14), (7, .bool x21), (77, .bool (decide (a0.Time ≤ 1099511627776)))]) (by kernel_rfl) ?_
         by_cases hb29 : (decide (a0.Time ≤ 1099511627776)) = true
         ·
          rw [if_pos hb29] at h1
          refine oK [1, 3, 4, 6, 7, 77] (S' := [(1, pb b2), (3, pb b9), (4, iv x10), (6, .bool x14), (7, .bool x21), (77, .bool true)]) (by simp only [hb29]; kernel_rfl) ?_
          refine oP (r := []) [13, 14, 15, 16, 17, 18, 19, 20, 21, 22] (S' := [(1, pb b2), (3, pb b9), (4, iv x10), (6, .bool x14), (7, .bool x21), (8, .bool true)]) (by kernel_rfl) ?_
          refine oD ?_
          have e := someS h1
          subst e
          exact Qn.thenJ fun a ha => ⟨true, rfl, ha.keep [1, 3, 4, 6, 7, 8] (by kernel_rfl), hI⟩
         ·
          rw [if_neg hb29] at h1
          have hb29 : (decide (a0.Time ≤ 1099511627776)) = false := by simpa using hb29
          refine oK [1, 3, 4, 6, 7, 77] (S' := [(1, pb b2), (3, pb b9), (4, iv x10), (6, .bool x14), (7, .bool x21), (77, .bool false)]) (by simp only [hb29]; kernel_rfl) ?_
          refine oP (r := [14, 15, 16, 17, 18, 19, 20, 21, 22]) [13] (S' := [(1, pb b2), (3, pb b9), (4, iv x10), (6, .bool x14), (7, .bool x21), (77, .bool false), (78, .pointer (some ⟨b9, 2, none⟩))]) (by kernel_rfl) ?_
          refine oC (Does.yi (Yl.load (d := 79) (T := 4) (v := .bool (gt y7 2)) (by kernel_rfl) (ldB ty4 (l := cA Value.bool y7) (o := 2) (v := .bool (gt y7 2)) (ent_refl _) (arr_getC _ _ 2 hl8 (by kernel_rfl)))) hI ?_)
          refine oP (r := [17, 18, 19, 20, 21, 22]) [15, 16] (S' := [(1, pb b2), (3, pb b9), (4, iv x10), (6, .bool x14), (7, .bool x21), (77, .bool false), (81, .bool (!(gt y7 2)))]) (by kernel_rfl) ?_
          by_cases hb30 : (!(gt y7 2)) = true
          ·
           rw [if_pos hb30] at h1
           refine oK [1, 3, 4, 6, 7, 77, 81] (S' := [(1, pb b2), (3, pb b9), (4, iv x10), (6, .bool x14), (7, .bool x21), (77, .bool false), (81, .bool true)]) (by simp only [hb30]; kernel_rfl) ?_
           refine oP (r := [18, 19, 20, 21, 22]) [17] (S' := [(1, pb b2), (3, pb b9), (4, iv x10), (6, .bool x14), (7, .bool x21), (77, .bool false), (81, .bool true), (82, .pointer (some ⟨b2, 3, none⟩))]) (by kernel_rfl) ?_
           refine oC (Does.yi (Yl.load (d := 83) (T := 3) (v := iv a0.Time) (by kernel_rfl) (ldB ty3 (l := c_ApiEvent a0) (o := 3) (v := iv a0.Time) (pick2 _ _ _) (by kernel_rfl))) hI ?_)
           refine oP (r := []) [19, 20, 21, 22] (S' := [(1, pb b2), (3, pb b9), (4, iv x10), (6, .bool x14), (7, .bool x21), (8, .bool (a0.Time == 0))]) (by kernel_rfl) ?_
           refine oD ?_
           have e := someS h1
           subst e
           exact Qn.thenJ fun a ha => ⟨a0.Time == 0, rfl, ha.keep [1, 3, 4, 6, 7, 8] (by kernel_rfl), hI⟩
          ·
           rw [if_neg hb30] at h1
           have hb30 : (!(gt y7 2)) = false := by simpa using hb30
           refine oK [1, 3, 4, 6, 7, 77, 81] (S' := [(1, pb b2), (3, pb b9), (4, iv x10), (6, .bool x14), (7, .bool x21), (77, .bool false), (81, .bool false)]) (by simp only [hb30]; kernel_rfl) ?_
           refine oP (r := []) [17, 18, 19, 20, 21, 22] (S' := [(1, pb b2), (3, pb b9), (4, iv x10), (6, .bool x14), (7, .bool x21), (8, .bool false)]) (by kernel_rfl) ?_
           refine oD ?_
           have e := someS h1
           subst e
           exact Qn.thenJ fun a ha => ⟨false, rfl, ha.keep [1, 3, 4, 6, 7, 8] (by kernel_rfl), hI⟩
        ·
         rw [if_neg hb28] at h1
         have hb28 : (decide (a0.Time ≥ 0)) = false := by simpa using hb28
         refine oK [1, 3, 4, 6, 7, 72] (S' := [(1, pb b2), (3, pb b9), (4, iv x10), (6, .bool x14), (7, .bool x21), (72, .bool false)]) (by simp only [hb28]; kernel_rfl) ?_
         refine oP (r := [14, 15, 16, 17, 18, 19, 20, 21, 22]) [8, 9, 10, 11, 12, 13] (S' := [(1, pb b2), (3, pb b9), (4, iv x10), (6, .bool x14), (7, .bool x21), (77, .bool false), (78, .pointer (some ⟨b9, 2, none⟩))]) (by kernel_rfl) ?_
         refine oC (Does.yi (Yl.load (d := 79) (T := 4) (v := .bool (gt y7 2)) (by kernel_rfl) (ldB ty4 (l := cA Value.bool y7) (o := 2) (v := .bool (gt y7 2)) (ent_refl _) (arr_getC _ _ 2 hl8 (by kernel_rfl)))) hI ?_)
         refine oP (r := [17, 18, 19, 20, 21, 22]) [15, 16] (S' := [(1, pb b2), (3, pb b9), (4, iv x10), (6, .bool x14), (7, .bool x21), (77, .bool false), (81, .bool (!(gt y7 2)))]) (by kernel_rfl) ?_
         by_cases hb31 : (!(gt y7 2)) = true
         ·
          rw [if_pos hb31] at h1
          refine oK [1, 3, 4, 6, 7, 77, 81] (S' := [(1, pb b2), (3, pb b9), (4, iv x10), (6, .bool x14), (7, .bool x21), (77, .bool false), (81, .bool true)]) (by simp only [hb31]; kernel_rfl) ?_
          refine oP (r := [18, 19, 20, 21, 22]) [17] (S' := [(1, pb b2), (3, pb b9), (4, iv x10), (6, .bool x14), (7, .bool x21), (77, .bool false), (81, .bool true), (82, .pointer (some ⟨b2, 3, none⟩))]) (by kernel_rfl) ?_
          refine oC (Does.yi (Yl.load (d := 83) (T := 3) (v := iv a0.Time) (by kernel_rfl) (ldB ty3 (l := c_ApiEvent a0) (o := 3) (v := iv a0.Time) (pick2 _ _ _) (by kernel_rfl))) hI ?_)
          refine oP (r := []) [19, 20, 21, 22] (S' := [(1, pb b2), (3, pb b9), (4, iv x10), (6, .bool x14), (7, .bool x21), (8, .bool (a0.Time == 0))]) (by kernel_rfl) ?_
          refine oD ?_
          have e := someS h1
          subst e
          exact Qn.thenJ fun a ha => ⟨a0.Time == 0, rfl, ha.keep [1, 3, 4, 6, 7, 8] (by kernel_rfl), hI⟩
         ·
          rw [if_neg hb31] at h1
          have hb31 : (!(gt y7 2)) = false := by simpa using hb31
          refine oK [1, 3, 4, 6, 7, 77, 81] (S' := [(1, pb b2), (3, pb b9), (4, iv x10), (6, .bool x14), (7, .bool x21), (77, .bool false), (81, .bool false)]) (by simp only [hb31]; kernel_rfl) ?_
          refine oP (r := []) [17, 18, 19, 20, 21, 22] (S' := [(1, pb b2), (3, pb b9), (4, iv x10), (6, .bool x14), (7, .bool x21), (8, .bool false)]) (by kernel_rfl) ?_
          refine oD ?_
          have e := someS h1
          subst e
          exact Qn.thenJ fun a ha => ⟨false, rfl, ha.keep [1, 3, 4, 6, 7, 8] (by kernel_rfl), hI⟩
       ·
        rw [if_neg hb27] at h1
        have hb27 : (gt y7 2) = false := by simpa using hb27
        refine oK [1, 3, 4, 6, 7, 67] (S' := [(1, pb b2), (3, pb b9), (4, iv x10), (6, .bool x14), (7, .bool x21), (67, .bool false)]) (by simp only [hb27]; kernel_rfl) ?_
        refine oP (r := [14, 15, 16, 17, 18, 19, 20, 21, 22]) [3, 4, 5, 6, 7, 8, 9, 10, 11, 12, 13] (S' := [(1, pb b2), (3, pb b9), (4, iv x10), (6, .bool x14), (7, .bool x21), (77, .bool false), (78, .pointer (some ⟨b9, 2, none⟩))]) (by kernel_rfl) ?_
        refine oC (Does.yi (Yl.load (d := 79) (T := 4) (v := .bool (gt y7 2)) (by kernel_rfl) (ldB ty4 (l := cA Value.bool y7) (o := 2) (v := .bool (gt y7 2)) (ent_refl _) (arr_getC _ _ 2 hl8 (by kernel_rfl)))) hI ?_)
        refine oP (r := [17, 18, 19, 20, 21, 22]) [15, 16] (S' := [(1, pb b2), (3, pb b9), (4, iv x10), (6, .bool x14), (7, .bool x21), (77, .bool false), (81, .bool (!(gt y7 2)))]) (by kernel_rfl) ?_
        by_cases hb32 : (!(gt y7 2)) = true
        ·
         rw [if_pos hb32] at h1
         refine oK [1, 3, 4, 6, 7, 77, 81] (S' := [(1, pb b2), (3, pb b9), (4, iv x10), (6, .bool x14), (7, .bool x21), (77, .bool false), (81, .bool true)]) (by simp only [hb32]; kernel_rfl) ?_
         refine oP (r := [18, 19, 20, 21, 22]) [17] (S' := [(1, pb b2), (3, pb b9), (4, iv x10), (6, .bool x14), (7, .bool x21), (77, .bool false), (81, .bool true), (82, .pointer (some ⟨b2, 3, none⟩))]) (by kernel_rfl) ?_
         refine oC (Does.yi (Yl.load (d := 83) (T := 3) (v := iv a0.Time) (by kernel_rfl) (ldB ty3 (l := c_ApiEvent a0) (o := 3) (v := iv a0.Time) (pick2 _ _ _) (by kernel_rfl))) hI ?_)
         refine oP (r := []) [19, 20, 21, 22] (S' := [(1, pb b2), (3, pb b9), (4, iv x10), (6, .bool x14), (7, .bool x21), (8, .bool (a0.Time == 0))]) (by kernel_rfl) ?_
         refine oD ?_
         have e := someS h1
         subst e
         exact Qn.thenJ fun a ha => ⟨a0.Time == 0, rfl, ha.keep [1, 3, 4, 6, 7, 8] (by kernel_rfl), hI⟩
        ·
         rw [if_neg hb32] at h1
         have hb32 : (!(gt y7 2)) = false := by simpa using hb32
         refine oK [1, 3, 4, 6, 7, 77, 81] (S' := [(1, pb b2), (3, pb b9), (4, iv x10), (6, .bool x14), (7, .bool x21), (77, .bool false), (81, .bool false)]) (by simp only [hb32]; kernel_rfl) ?_
         refine oP (r := []) [17, 18, 19, 20, 21, 22] (S' := [(1, pb b2), (3, pb b9), (4, iv x10), (6, .bool x14), (7, .bool x21), (8, .bool false)]) (by kernel_rfl) ?_
         refine oD ?_
         have e := someS h1
         subst e
         exact Qn.thenJ fun a ha => ⟨false, rfl, ha.keep [1, 3, 4, 6, 7, 8] (by kernel_rfl), hI⟩
      ·
       rintro a w ⟨x26, rfl, ha, hI⟩
       try dsimp only at h0
       refine CodT.of ?_ ha
       obtain ⟨r1, h1, h0⟩ := bindS h0
       refine CodT.meet (fun a w => ∃ (x33 : Bool), x33 = r1 ∧ Fr 131 [(1, pb b2), (3, pb b9), (6, .bool x14), (7, .bool x21), (8, .bool x26), (9, .bool x33)] a ∧ Inv w0 Z w (star (pt b9 (.cells (cA Value.bool y7).toArray 102 (0, 0))) (star (pt b2 (.cells (c_ApiEvent a0).toArray 42 (0, 0))) A))) ?_ ?_
       ·
        refine cR [0, 1, 2, 3, 4, 5, 6, 7, 8, 9, 10, 11, 12, 13, 14, 15, 16, 17, 18, 19, 20, 21, 22, 23] (by kernel_rfl) ?_
        refine oP (r := [1, 2, 3, 4, 5, 6, 7, 8, 9, 10, 11, 12, 13, 14, 15, 16, 17, 18, 19, 20, 21, 22, 23]) [0] (S' := [(1, pb b2), (3, pb b9), (4, iv x10), (6, .bool x14), (7, .bool x21), (8, .bool x26), (87, .pointer (some ⟨b9, 3, none⟩))]) (by kernel_rfl) ?_
        refine oC (Does.yi (Yl.load (d := 88) (T := 4) (v := .bool (gt y7 3)) (by kernel_rfl) (ldB ty4 (l := cA Value.bool y7) (o := 3) (v := .bool (gt y7 3)) (ent_refl _) (arr_getC _ _ 3 hl8 (by kernel_rfl)))) hI ?_)
        refine oP (r := [3, 4, 5, 6, 7, 8, 9, 10, 11, 12, 13, 14, 15, 16, 17, 18, 19, 20, 21, 22, 23]) [2] (S' := [(1, pb b2), (3, pb b9), (4, iv x10), (6, .bool x14), (7, .bool x21), (8, .bool x26), (89, .bool (gt y7 3))]) (by kernel_rfl) ?_
        by_cases hb34 : (gt y7 3) = true
        ·
         rw [if_pos hb34] at h1
         refine oK [1, 3, 4, 6, 7, 8, 89] (S' := [(1, pb b2), (3, pb b9), (4, iv x10), (6, .bool x14), (7, .bool x21), (8, .bool x26), (89, .bool true)]) (by simp only [hb34]; kernel_rfl) ?_
         refine oP (r := [4, 5, 6, 7, 8, 9, 10, 11, 12, 13, 14, 15, 16, 17, 18, 19, 20, 21, 22, 23]) [3] (S' := [(1, pb b2), (3, pb b9), (4, iv x10), (6, .bool x14), (7, .bool x21), (8, .bool x26), (89, .bool true), (90, .pointer (some ⟨b2, 4, none⟩))]) (by kernel_rfl) ?_
         refine oC (Does.yi (Yl.load (d := 91) (T := 3) (v := iv a0.Len) (by kernel_rfl) (ldB ty3 (l := c_ApiEvent a0) (o := 4) (v := iv a0.Len) (pick2 _ _ _) (by kernel_rfl))) hI ?_)
         refine oP (r := [9, 10, 11, 12, 13, 14, 15, 16, 17, 18, 19, 20, 21, 22, 23]) [5, 6, 7, 8] (S' := [(1, pb b2), (3, pb b9), (6, .bool x14), (7, .bool x21), (8, .bool x26), (95, .bool (decide (a0.Len ≥ x10)))]) (by kernel_rfl) ?_
         by_cases hb35 : (decide (a0.Len ≥ x10)) = true
         ·
          rw [if_pos hb35] at h1
          refine oK [1, 3, 6, 7, 8, 95] (S' := [(1, pb b2), (3, pb b9), (6, .bool x14), (7, .bool x21), (8, .bool x26), (95, .bool true)]) (by simp only [hb35]; kernel_rfl) ?_
          refine oP (r := [10, 11, 12, 13, 14, 15, 16, 17, 18, 19, 20, 21, 22, 23]) [9] (S' := [(1, pb b2), (3, pb b9), (6, .bool x14), (7, .bool x21), (8, .bool x26), (95, .bool true), (96, .pointer (some ⟨b2, 4, none⟩))]) (by kernel_rfl) ?_
          refine oC (Does.yi (Yl.load (d := 97) (T := 3) (v := iv a0.Len) (by kernel_rfl) (ldB ty3 (l := c_ApiEvent a0) (o := 4) (v := iv a0.Len) (pick2 _ _ _) (by kernel_rfl))) hI ?_)
          refine oP (r := [14, 15, 16, 17, 18, 19, 20, 21, 22, 23]) [11, 12, 13] (S' := [(1, pb b2), (3, pb b9), (6, .bool x14), (7, .bool x21), (8, .bool x26), (100, .bool (decide (a0.Len ≤ 600)))]) (by kernel_rfl) ?_
          by_cases hb36 : (decide (a0.Len ≤ 600)) = true
          ·
           rw [if_pos hb36] at h1
           refine oK [1, 3, 6, 7, 8, 100] (S' := [(1, pb b2), (3, pb b9), (6, .bool x14), (7, .bool x21), (8, .bool x26), (100, .bool true)]) (by simp only [hb36]; kernel_rfl) ?_
           refine oP (r := []) [14, 15, 16, 17, 18, 19, 20, 21, 22, 23] (S' := [(1, pb b2), (3, pb b9), (6, .bool x14), (7, .bool x21), (8, .bool x26), (9, .bool true)]) (by kernel_rfl) ?_
           refine oD ?_
           have e := someS h1
           subst e
           exact Qn.thenJ fun a ha => ⟨true, rfl, ha.keep [1, 3, 6, 7, 8, 9] (by kernel_rfl), hI⟩
          ·
           rw [if_neg hb36] at h1
           have hb36 : (decide (a0.Len ≤ 600)) = false := by simpa using hb36
           refine oK [1, 3, 6, 7, 8, 100] (S' := [(1, pb b2), (3, pb b9), (6, .bool x14), (7, .bool x21), (8, .bool x26), (100, .bool false)]) (by simp only [hb36]; kernel_rfl) ?_
           refine oP (r := [15, 16, 17, 18, 19, 20, 21, 22, 23]) [14] (S' := [(1, pb b2), (3, pb b9), (6, .bool x14), (7, .bool x21), (8, .bool x26), (100, .bool false), (101, .pointer (some ⟨b9, 3, none⟩))]) (by kernel_rfl) ?_
           refine oC (Does.yi (Yl.load (d := 102) (T := 4) (v := .bool (gt y7 3)) (by kernel_rfl) (ldB ty4 (l := cA Value.bool y7) (o := 3) (v := .bool (gt y7 3)) (ent_refl _) (arr_getC _ _ 3 hl8 (by kernel_rfl)))) hI ?_)
           refine oP (r := [18, 19, 20, 21, 22, 23]) [16, 17] (S' := [(1, pb b2), (3, pb b9), (6, .bool x14), (7, .bool x21), (8, .bool x26), (100, .bool false), (104, .bool (!(gt y7 3)))]) (by kernel_rfl) ?_
           by_cases hb37 : (!(gt y7 3)) = true
           ·
            rw [if_pos hb37] at h1
            refine oK [1, 3, 6, 7, 8, 100, 104] (S' := [(1, pb b2), (3, pb b9), (6, .bool x14), (7, .bool x21), (8, .bool x26), (100, .bool false), (104, .bool true)]) (by simp only [hb37]; kernel_rfl) ?_
            refine oP (r := [19, 20, 21, 22, 23]) [18] (S' := [(1, pb b2), (3, pb b9), (6, .bool x14), (7, .bool x21), (8, .bool x26), (100, .bool false), (104, .bool true), (105, .pointer (some ⟨b2, 4, none⟩))]) (by kernel_rfl) ?_
            refine oC (Does.yi (Yl.load (d := 106) (T := 3) (v := iv a0.Len) (by kernel_rfl) (ldB ty3 (l := c_ApiEvent a0) (o := 4) (v := iv a0.Len) (pick2 _ _ _) (by kernel_rfl))) hI ?_)
            refine oP (r := []) [20, 21, 22, 23] (S' := [(1, pb b2), (3, pb b9), (6, .bool x14), (7, .bool x21), (8, .bool x26), (9, .bool (a0.Len == 0))]) (by kernel_rfl) ?_
            refine oD ?_
            have e := someS h1
            subst e
            exact Qn.thenJ fun a ha => ⟨a0.Len == 0, rfl, ha.keep [1, 3, 6, 7, 8, 9] (by kernel_rfl), hI⟩
           ·
            rw [if_neg hb37] at h1
            have hb37 : (!(gt y7 3)) = false := by simpa using hb37
            refine oK [1, 3, 6, 7, 8, 100, 104] (S' := [(1, pb b2), (3, pb b9), (6, .bool x14), (7, .bool x21), (8, .bool x26), (100, .bool false), (104, .bool false)]) (by simp only [hb37]; kernel_rfl) ?_
            refine oP (r := []) [18, 19, 20, 21, 22, 23] (S' := [(1, pb b2), (3, pb b9), (6, .bool x14), (7, .bool x21), (8, .bool x26), (9, .bool false)]) (by kernel_rfl) ?_
            refine oD ?_
            have e := someS h1
            subst e
            exact Qn.thenJ fun a ha => ⟨false, rfl, ha.keep [1, 3, 6, 7, 8, 9] (by kernel_rfl), hI⟩
         ·
          rw [if_neg hb35] at h1
          have hb35 : (decide (a0.Len ≥ x10)) = false := by simpa using hb35
          refine oK [1, 3, 6, 7, 8, 95] (S' := [(1, pb b2), (3, pb b9), (6, .bool x14), (7, .bool x21), (8, .bool x26), (95, .bool false)]) (by simp only [hb35]; kernel_rfl) ?_
          refine oP (r := [15, 16, 17, 18, 19, 20, 21, 22, 23]) [9, 10, 11, 12, 13, 14] (S' := [(1, pb b2), (3, pb b9), (6, .bool x14), (7, .bool x21), (8, .bool x26), (100, .bool false), (101, .pointer (some ⟨b9, 3, none⟩))]) (by kernel_rfl) ?_
          refine oC (Does.yi (Yl.load (d := 102) (T := 4) (v := .bool (gt y7 3)) (by kernel_rfl) (ldB ty4 (l := cA Value.bool y7) (o := 3) (v := .bool (gt y7 3)) (ent_refl _) (arr_getC _ _ 3 hl8 (by kernel_rfl)))) hI ?_)
          refine oP (r := [18, 19, 20, 21, 22, 23]) [16, 17] (S' := [(1, pb b2), (3, pb b9), (6, .bool x14), (7, .bool x21), (8, .bool x26), (100, .bool false), (104, .bool (!(gt y7 3)))]) (by kernel_rfl) ?_
          by_cases hb38 : (!(gt y7 3)) = true
          ·
           rw [if_pos hb38] at h1
           refine oK [1, 3, 6, 7, 8, 100, 104] (S' := [(1, pb b2), (3, pb b9), (6, .bool x14), (7, .bool x21), (8, .bool x26), (100, .bool false), (104, .bool true)]) (by simp only [hb38]; kernel_rfl) ?_
           refine oP (r := [19, 20, 21, 22, 23]) [18] (S' := [(1, pb b2), (3, pb b9), (6, .bool x14), (7, .bool x21), (8, .bool x26), (100, .bool false), (104, .bool true), (105, .pointer (some ⟨b2, 4, none⟩))]) (by kernel_rfl) ?_
           refine oC (Does.yi (Yl.load (d := 106) (T := 3) (v := iv a0.Len) (by kernel_rfl) (ldB ty3 (l := c_ApiEvent a0) (o := 4) (v := iv a0.Len) (pick2 _ _ _) (by kernel_rfl))) hI ?_)
           refine oP (r := []) [20, 21, 22, 23] (S' := [(1, pb b2), (3, pb b9), (6, .bool x14), (7, .bool x21), (8, .bool x26), (9, .bool (a0.Len == 0))]) (by kernel_rfl) ?_
           refine oD ?_
           have e := someS h1
           subst e
           exact Qn.thenJ fun a ha => ⟨a0.Len == 0, rfl, ha.keep [1, 3, 6, 7, 8, 9] (by kernel_rfl), hI⟩
          ·
           rw [if_neg hb38] at h1
           have hb38 : (!(gt y7 3)) = false := by simpa using hb38
           refine oK [1, 3, 6, 7, 8, 100, 104] (S' := [(1, pb b2), (3, pb b9), (6, .bool x14), (7, .bool x21), (8, .bool x26), (100, .bool false), (104, .bool false)]) (by simp only [hb38]; kernel_rfl) ?_
           refine oP (r := []) [18, 19, 20, 21, 22, 23] (S' := [(1, pb b2), (3, pb b9), (6, .bool x14), (7, .bool x21), (8, .bool x26), (9, .bool false)]) (by kernel_rfl) ?_
           refine oD ?_
           have e := someS h1
           subst e
           exact Qn.thenJ fun a ha => ⟨false, rfl, ha.keep [1, 3, 6, 7, 8, 9] (by kernel_rfl), hI⟩
        ·
         rw [if_neg hb34] at h1
         have hb34 : (gt y7 3) = false := by simpa using hb34
         refine oK [1, 3, 4, 6, 7, 8, 89] (S' := [(1, pb b2), (3, pb b9), (4, iv x10), (6, .bool x14), (7, .bool x21), (8, .bool x26), (89, .bool false)]) (by simp only [hb34]; kernel_rfl) ?_
         refine oP (r := [15, 16, 17, 18, 19, 20, 21, 22, 23]) [3, 4, 5, 6, 7, 8, 9, 10, 11, 12, 13, 14] (S' := [(1, pb b2), (3, pb b9), (6, .bool x14), (7, .bool x21), (8, .bool x26), (100, .bool false), (101, .pointer (some ⟨b9, 3, none⟩))]) (by kernel_rfl) ?_
         refine oC (Does.yi (Yl.load (d := 102) (T := 4) (v := .bool (gt y7 3)) (by kernel_rfl) (ldB ty4 (l := cA Value.bool y7) (o := 3) (v := .bool (gt y7 3)) (ent_refl _) (arr_getC _ _ 3 hl8 (by kernel_rfl)))) hI ?_)
         refine oP (r := [18, 19, 20, 21, 22, 23]) [16, 17] (S' := [(1, pb b2), (3, pb b9), (6, .bool x14), (7, .bool x21), (8, .bool x26), (100, .bool false), (104, .bool (!(gt y7 3)))]) (by kernel_rfl) ?_
         by_cases hb39 : (!(gt y7 3)) = true
         ·
          rw [if_pos hb39] at h1
          refine oK [1, 3, 6, 7, 8, 100, 104] (S' := [(1, pb b2), (3, pb b9), (6, .bool x14), (7, .bool x21), (8, .bool x26), (100, .bool false), (104, .bool true)]) (by simp only [hb39]; kernel_rfl) ?_
          refine oP (r := [19, 20, 21, 22, 23]) [18] (S' := [(1, pb b2), (3, pb b9), (6, .bool x14), (7, .bool x21), (8, .bool x26), (100, .bool false), (104, .bool true), (105, .pointer (some ⟨b2, 4, none⟩))]) (by kernel_rfl) ?_
          refine oC (Does.yi (Yl.load (d := 106) (T := 3) (v := iv a0.Len) (by kernel_rfl) (ldB ty3 (l := c_ApiEvent a0) (o := 4) (v := iv a0.Len) (pick2 _ _ _) (by kernel_rfl))) hI ?_)
          refine oP (r := []) [20, 21, 22, 23] (S' := [(1, pb b2), (3, pb b9), (6, .bool x14), (7, .bool x21), (8, .bool x26), (9, .bool (a0.Len == 0))]) (by kernel_rfl) ?_
          refine oD ?_
          have e := someS h1
          subst e
          exact Qn.thenJ fun a ha => ⟨a0.Len == 0, rfl, ha.keep [1, 3, 6, 7, 8, 9] (by kernel_rfl), hI⟩
         ·
          rw [if_neg hb39] at h1
          have hb39 : (!(gt y7 3)) = false := by simpa using hb39
          refine oK [1, 3, 6, 7, 8, 100, 104] (S' := [(1, pb b2), (3, pb b9), (6, .bool x14), (7, .bool x21), (8, .bool x26), (100, .bool false), (104, .bool false)]) (by simp only [hb39]; kernel_rfl) ?_
          refine oP (r := []) [18, 19, 20, 21, 22, 23] (S' := [(1, pb b2), (3, pb b9), (6, .bool x14), (7, .bool x21), (8, .bool x26), (9, .bool false)]) (by kernel_rfl) ?_
          refine oD ?_
          have e := someS h1
          subst e
          exact Qn.thenJ fun a ha => ⟨false, rfl, ha.keep [1, 3, 6, 7, 8, 9] (by kernel_rfl), hI⟩
       ·
        rintro a w ⟨x33, rfl, ha, hI⟩
        try dsimp only at h0
        refine CodT.of ?_ ha
        obtain ⟨r1, h1, h0⟩ := bindS h0
        refine CodT.meet (fun a w => ∃ (x40 : Bool), x40 = r1 ∧ Fr 131 [(6, .bool x14), (7, .bool x21), (8, .bool x26), (9, .bool x33), (10, .bool x40)] a ∧ Inv w0 Z w A) ?_ ?_
        ·
         refine cR [0, 1, 2, 3, 4, 5, 6, 7, 8] (by kernel_rfl) ?_
         refine oP (r := [1, 2, 3, 4, 5, 6, 7, 8]) [0] (S' := [(1, pb b2), (6, .bool x14), (7, .bool x21), (8, .bool x26), (9, .bool x33), (110, .pointer (some ⟨b9, 4, none⟩))]) (by kernel_rfl) ?_
         refine oC (Does.yi (Yl.load (d := 111) (T := 4) (v := .bool (gt y7 4)) (by kernel_rfl) (ldB ty4 (l := cA Value.bool y7) (o := 4) (v := .bool (gt y7 4)) (ent_refl _) (arr_getC _ _ 4 hl8 (by kernel_rfl)))) hI ?_)
         refine oP (r := [3, 4, 5, 6, 7, 8]) [2] (S' := [(1, pb b2), (6, .bool x14), (7, .bool x21), (8, .bool x26), (9, .bool x33), (112, .bool (gt y7 4))]) (by kernel_rfl) ?_
         by_cases hb41 : (gt y7 4) = true
         ·
          rw [if_pos hb41] at h1
          refine oK [1, 6, 7, 8, 9, 112] (S' := [(1, pb b2), (6, .bool x14), (7, .bool x21), (8, .bool x26), (9, .bool x33), (112, .bool true)]) (by simp only [hb41]; kernel_rfl) ?_
          refine oP (r := []) [3, 4, 5, 6, 7, 8] (S' := [(6, .bool x14), (7, .bool x21), (8, .bool x26), (9, .bool x33), (10, .bool true)]) (by kernel_rfl) ?_
          refine oD ?_
          have hI := hI.drop
          have hI := hI.drop
          have e := someS h1
          subst e
          exact Qn.thenJ fun a ha => ⟨true, rfl, ha.keep [6, 7, 8, 9, 10] (by kernel_rfl), hI⟩
         ·
          rw [if_neg hb41] at h1
          have hb41 : (gt y7 4) = false := by simpa using hb41
          refine oK [1, 6, 7, 8, 9, 112] (S' := [(1, pb b2), (6, .bool x14), (7, .bool x21), (8, .bool x26), (9, .bool x33), (112, .bool false)]) (by simp only [hb41]; kernel_rfl) ?_
          refine oP (r := [4, 5, 6, 7, 8]) [3] (S' := [(6, .bool x14), (7, .bool x21), (8, .bool x26), (9, .bool x33), (112, .bool false), (113, .pointer (some ⟨b2, 5, none⟩))]) (by kernel_rfl) ?_
          refine oC (Does.yi (Yl.load (d := 114) (T := 29) (v := .agg (cA (Value.int .u8) a0.Sum).toArray) (by kernel_rfl) (ldBN ty29 (l := c_ApiEvent a0) (o := 5) (cs := cA (Value.int .u8) a0.Sum) (pick2 _ _ _) ((cA_length _ _).trans hl1) (tail_take _ _ _ _ _ (by kernel_rfl) hl1))) hI ?_)
          refine oP (r := [6, 7, 8]) [5] (S' := [(6, .bool x14), (7, .bool x21), (8, .bool x26), (9, .bool x33), (112, .bool false), (114, .agg (cA (Value.int .u8) a0.Sum).toArray), (115, .agg (cA (Value.int .u8) ([0, 0, 0, 0, 0, 0, 0, 0, 0, 0, 0, 0, 0, 0, 0, 0, 0, 0, 0, 0, 0, 0, 0, 0, 0, 0, 0, 0, 0, 0, 0, 0] : List Int)).toArray)]) (by kernel_rfl) ?_
          refine oC (Does.yi (Yl.eqlA (k := .u8) (d := 116) (T := 29) (xs := a0.Sum) (ys := ([0, 0, 0, 0, 0, 0, 0, 0, 0, 0, 0, 0, 0, 0, 0, 0, 0, 0, 0, 0, 0, 0, 0, 0, 0, 0, 0, 0, 0, 0, 0, 0] : List Int)) (by kernel_rfl) Go.Proofs.Try.underlying29 (by kernel_rfl) Go.Proofs.Try.underlying5 ty5 hl1 (by kernel_rfl)) hI ?_)
          refine oP (r := []) [7, 8] (S' := [(6, .bool x14), (7, .bool x21), (8, .bool x26), (9, .bool x33), (10, .bool (eqA a0.Sum ([0, 0, 0, 0, 0, 0, 0, 0, 0, 0, 0, 0, 0, 0, 0, 0, 0, 0, 0, 0, 0, 0, 0, 0, 0, 0, 0, 0, 0, 0, 0, 0] : List Int)))]) (by kernel_rfl) ?_
          refine oD ?_
          have hI := hI.drop
          have hI := hI.drop
          have e := someS h1
          subst e
          exact Qn.thenJ fun a ha => ⟨eqA a0.Sum ([0, 0, 0, 0, 0, 0, 0, 0, 0, 0, 0, 0, 0, 0, 0, 0, 0, 0, 0, 0, 0, 0, 0, 0, 0, 0, 0, 0, 0, 0, 0, 0] : List Int), rfl, ha.keep [6, 7, 8, 9, 10] (by kernel_rfl), hI⟩
        ·
         rintro a w ⟨x40, rfl, ha, hI⟩
         try dsimp only at h0
         refine CodT.of ?_ ha
         obtain ⟨r1, h1, h0⟩ := bindS h0
         refine CodT.meet (fun a w => ∃ (x42 : Bool), x42 = r1 ∧ Fr 131 [(2, .bool x42)] a ∧ Inv w0 Z w A) ?_ ?_
         ·
          refine cR [0, 1, 2, 3, 4, 5, 6, 7, 8, 9, 10, 11, 12, 13] (by kernel_rfl) ?_
          refine oP (r := [2, 3, 4, 5, 6, 7, 8, 9, 10, 11, 12, 13]) [0, 1] (S' := [(7, .bool x21), (8, .bool x26), (9, .bool x33), (10, .bool x40), (119, .bool x14)]) (by kernel_rfl) ?_
          by_cases hb43 : x14 = true
          ·
           rw [if_pos hb43] at h1
           refine oK [7, 8, 9, 10, 119] (S' := [(7, .bool x21), (8, .bool x26), (9, .bool x33), (10, .bool x40), (119, .bool true)]) (by simp only [hb43]; kernel_rfl) ?_
           refine oP (r := [5, 6, 7, 8, 9, 10, 11, 12, 13]) [2, 3, 4] (S' := [(8, .bool x26), (9, .bool x33), (10, .bool x40), (122, .bool x21)]) (by kernel_rfl) ?_
           by_cases hb44 : x21 = true
           ·
            rw [if_pos hb44] at h1
            refine oK [8, 9, 10, 122] (S' := [(8, .bool x26), (9, .bool x33), (10, .bool x40), (122, .bool true)]) (by simp only [hb44]; kernel_rfl) ?_
            refine oP (r := [8, 9, 10, 11, 12, 13]) [5, 6, 7] (S' := [(9, .bool x33), (10, .bool x40), (125, .bool x26)]) (by kernel_rfl) ?_
            by_cases hb45 : x26 = true
            ·
             rw [if_pos hb45] at h1
             refine oK [9, 10, 125] (S' := [(9, .bool x33), (10, .bool x40), (125, .bool true)]) (by simp only [hb45]; kernel_rfl) ?_
             refine oP (r := [11, 12, 13]) [8, 9, 10] (S' := [(10, .bool x40), (128, .bool x33)]) (by kernel_rfl) ?_
             by_cases hb46 : x33 = true
             ·
              rw [if_pos hb46] at h1
              refine oK [10, 128] (S' := [(10, .bool x40), (128, .bool true)]) (by simp only [hb46]; kernel_rfl) ?_
              refine oP (r := []) [11, 12, 13] (S' := [(2, .bool x40)]) (by kernel_rfl) ?_
              refine oD ?_
              have e := someS h1
              subst e
              exact Qn.thenJ fun a ha => ⟨x40, rfl, ha.keep [2] (by kernel_rfl), hI⟩
             ·
              rw [if_neg hb46] at h1
              have hb46 : x33 = false := by simpa using hb46
              refine oK [10, 128] (S' := [(10, .bool x40), (128, .bool false)]) (by simp only [hb46]; kernel_rfl) ?_
              refine oP (r := []) [11, 12, 13] (S' := [(2, .bool false)]) (by kernel_rfl) ?_
              refine oD ?_
              have e := someS h1
              subst e
              exact Qn.thenJ fun a ha => ⟨false, rfl, ha.keep [2] (by kernel_rfl), hI⟩
            ·
             rw [if_neg hb45] at h1
             have hb45 : x26 = false := by simpa using hb45
             refine oK [9, 10, 125] (S' := [(9, .bool x33), (10, .bool x40), (125, .bool false)]) (by simp only [hb45]; kernel_rfl) ?_
             refine oP (r := []) [8, 9, 10, 11, 12, 13] (S' := [(2, .bool false)]) (by kernel_rfl) ?_
             refine oD ?_
             have e := someS h1
             subst e
             exact Qn.thenJ fun a ha => ⟨false, rfl, ha.keep [2] (by kernel_rfl), hI⟩
           ·
            rw [if_neg hb44] at h1
            have hb44 : x21 = false := by simpa using hb44
            refine oK [8, 9, 10, 122] (S' := [(8, .bool x26), (9, .bool x33), (10, .bool x40), (122, .bool false)]) (by simp only [hb44]; kernel_rfl) ?_
            refine oP (r := []) [5, 6, 7, 8, 9, 10, 11, 12, 13] (S' := [(2, .bool false)]) (by kernel_rfl) ?_
            refine oD ?_
            have e := someS h1
            subst e
            exact Qn.thenJ fun a ha => ⟨false, rfl, ha.keep [2] (by kernel_rfl), hI⟩
          ·
           rw [if_neg hb43] at h1
           have hb43 : x14 = false := by simpa using hb43
           refine oK [7, 8, 9, 10, 119] (S' := [(7, .bool x21), (8, .bool x26), (9, .bool x33), (10, .bool x40), (119, .bool false)]) (by simp only [hb43]; kernel_rfl) ?_
           refine oP (r := []) [2, 3, 4, 5, 6, 7, 8, 9, 10, 11, 12, 13] (S' := [(2, .bool false)]) (by kernel_rfl) ?_
           refine oD ?_
           have e := someS h1
           subst e
           exact Qn.thenJ fun a ha => ⟨false, rfl, ha.keep [2] (by kernel_rfl), hI⟩
         ·
          rintro a w ⟨x42, rfl, ha, hI⟩
          try dsimp only at h0
          refine CodT.of ?_ ha
          refine CodT.ret ?_
          have e := someS h0
          subst e
          refine qK [2] (S' := [(2, .bool x42)]) (by kernel_rfl) ?_
          exact post_ret (v := .bool x42) (fun a ha => RunRes.run (vs := [.bool x42]) (.tmp (t := 2) (by kernel_rfl) .nil) ha (by kernel_rfl)) ⟨rfl, hI⟩
/-- cenotaph/cenotaphref04.Num -/
theorem c57 (w0 w : World) (Z : Hp) (A : HP) (hI : Inv w0 Z w A) (a0 : Int) (r : ByteArray) (h0 : ref04_Num a0 = some r) :
  Calls prog 57 #[iv a0] w (fun e w' => e = .returned (.string r) ∧ Inv w0 Z w' A) := by
 have e4 := calls_intro (R := (fun e w' => e = .returned (.string r) ∧ Inv w0 Z w' A)) (w := w) (args := [iv a0]) (fn := Go.Proofs.Try.f57) 24 Go.Proofs.Try.func57 (by rfl) Go.Proofs.Try.ntmps57 (by kernel_rfl)
 refine e4 ?_
 clear e4
 unfold ref04_Num at h0
 refine cQ ?_
 refine cR [0] (by kernel_rfl) ?_
 refine oP (r := []) [0] (S' := [(0, iv a0)]) (by kernel_rfl) ?_
 refine oD ?_
 refine qT ?_
 refine cQ ?_
 refine cR [0, 1, 2, 3] (by kernel_rfl) ?_
 refine oP (r := []) [0, 1, 2, 3] (S' := [(0, iv (if 1125899906842624 < (if 0 > a0 then 0 else a0) then 1125899906842624 else if 0 > a0 then 0 else a0))]) (by kernel_rfl) ?_
 refine oD ?_
 refine qT ?_
 refine cQ ?_
 refine cR [0] (by kernel_rfl) ?_
 refine oP (r := []) [0] (S' := [(0, iv (if 1125899906842624 < (if 0 > a0 then 0 else a0) then 1125899906842624 else if 0 > a0 then 0 else a0)), (3, .slice none 0 0)]) (by kernel_rfl) ?_
 refine oD ?_
 refine qT ?_
 refine cQ ?_
 obtain ⟨r1, h1, h0⟩ := bindS h0
 refine CodT.meet1 (fun a w => ∃ (x1 : Int) (x2 : (List Int)) (A3 : Option Addr) (cp4 : Nat), (x1, x2) = r1 ∧ Fr 24 [(0, iv x1), (3, .slice A3 x2.length cp4)] a ∧ Inv w0 Z w (star (ownS 5 (cI .u8) 1 A3 cp4 x2) A)) ?_ ?_
 ·
  refine CodT.block ?_
  have hI := ownS_nil (α := Int) hI 5 (cI .u8) 1
  refine (fun a ha => wp_loopN (fun k a w => ∃ (x5 : Int) (x6 : (List Int)) (A7 : Option Addr) (cp8 : Nat), ref04_Num.l0 k x5 x6 = some r1 ∧ Fr 24 [(0, iv x5), (3, .slice A7 x6.length cp8)] a ∧ Inv w0 Z w (star (ownS 5 (cI .u8) 1 A7 cp8 x6) A)) ?_ FU a w ⟨if 1125899906842624 < (if 0 > a0 then 0 else a0) then 1125899906842624 else if 0 > a0 then 0 else a0, ([] : List Int), none, 0, h1, ha.keep [0, 3] (by kernel_rfl), hI⟩)
  clear h1 hI
  rintro k a w ⟨x5, x6, A7, cp8, h1, ha, hI⟩
  rcases k with _ | k
  ·
   cases h1
  simp only [ref04_Num.l0] at h1
  refine CodT.of ?_ ha
  refine cQ ?_
  refine cQ ?_
  refine cR [0, 1] (by kernel_rfl) ?_
  refine oP (r := []) [0, 1] (S' := [(0, iv x5), (3, .slice A7 x6.length cp8), (8, .bool (decide (x5 ≥ 128)))]) (by kernel_rfl) ?_
  refine oD ?_
  refine qT ?_
  by_cases hb9 : (decide (x5 ≥ 128)) = true
  ·
   rw [if_pos hb9] at h1
   refine CodT.yes' (b := decide (x5 ≥ 128)) (by kernel_rfl) hb9 ?_
   refine CodT.skip ?_
   refine qT ?_
   refine CodT.block ?_
   refine cQ ?_
   refine cR [0, 1, 2, 3, 4, 5, 6, 7] (by kernel_rfl) ?_
   refine oP (r := [5, 6, 7]) [0, 1, 2, 3, 4] (S' := [(0, iv x5), (9, .slice A7 x6.length cp8), (13, .int .u8 (wu8 (wi64 ((x5.tmod 128) + 128))))]) (by kernel_rfl) ?_
   refine oC (Does.buildSlice (en := (cI .u8)) (d := 14) (n := 1) (T := 45) (ps := [(0, .int .u8 (wu8 (wi64 ((x5.tmod 128) + 128))))]) ([wu8 (wi64 ((x5.tmod 128) + 128))] : List Int) (by kernel_rfl) Go.Proofs.Try.underlying45 ty5 (by kernel_rfl) (by kernel_rfl) (by kernel_rfl) (by kernel_rfl) (len_all (fun _ => rfl)) hI ?_)
   intro b10 w hI
   obtain ⟨hg11, h1⟩ := guardS h1
   have hI := hI.mono (pick2 _ _ _)
   refine oC (Does.append (d := 15) (t := 45) (tx := 45) (ty := 45) (ys := x6) (zs := ([wu8 (wi64 ((x5.tmod 128) + 128))] : List Int)) (x := .slice (some ⟨b10, 0, none⟩) (([wu8 (wi64 ((x5.tmod 128) + 128))] : List Int).length) 1) (by kernel_rfl) Go.Proofs.Try.underlying45 ty5 (by kernel_rfl) hI (src_own Go.Proofs.Try.underlying45 (hI.mono (pick2 _ _ _)) (one_flat _ (fun _ => rfl))) (ownS_facts (hI.mono (pick2 _ _ _))).2.2 (by unfold LIM at hg11; omega) hg11 ?_)
   intro A12 cp13 w hI
   refine oP (r := []) [7] (S' := [(0, iv x5), (3, .slice A12 ((x6 ++ ([wu8 (wi64 ((x5.tmod 128) + 128))] : List Int)).length) cp13)]) (by kernel_rfl) ?_
   refine oD ?_
   refine qT ?_
   refine cR [0, 1, 2] (by kernel_rfl) ?_
   refine oP (r := []) [0, 1, 2] (S' := [(0, iv (wi64 (x5.tdiv 128))), (3, .slice A12 ((x6 ++ ([wu8 (wi64 ((x5.tmod 128) + 128))] : List Int)).length) cp13)]) (by kernel_rfl) ?_
   refine oD ?_
   refine Qn.block_normal ?_
   have hI := hI.mono (pick2 _ _ _)
   have hI := hI.drop
   exact Qn.thenJ fun a ha => ⟨k, Nat.lt_succ_self k, wi64 (x5.tdiv 128), x6 ++ ([wu8 (wi64 ((x5.tmod 128) + 128))] : List Int), A12, cp13, h1, ha.keep [0, 3] (by kernel_rfl), hI⟩
  ·
   rw [if_neg hb9] at h1
   refine CodT.no' (b := decide (x5 ≥ 128)) (by kernel_rfl) (by simpa using hb9) ?_
   refine CodT.exit ?_
   refine Qn.exit_then ?_
   refine Qn.exit_then ?_
   refine Qn.block ?_
   have e := someS h1
   subst e
   exact Qn.thenJ fun a ha => ⟨x5, x6, A7, cp8, rfl, ha.keep [0, 3] (by kernel_rfl), hI⟩
 ·
  rintro a w ⟨x1, x2, A3, cp4, rfl, ha, hI⟩
  try dsimp only at h0
  refine Qn.of ?_ ha
  refine qT ?_
  refine cQ ?_
  refine cR [0, 1, 2, 3, 4, 5, 6] (by kernel_rfl) ?_
  refine oP (r := [3, 4, 5, 6]) [0, 1, 2] (S' := [(18, .slice A3 x2.length cp4), (20, .int .u8 (wu8 x1))]) (by kernel_rfl) ?_
  refine oC (Does.buildSlice (en := (cI .u8)) (d := 21) (n := 1) (T := 45) (ps := [(0, .int .u8 (wu8 x1))]) ([wu8 x1] : List Int) (by kernel_rfl) Go.Proofs.Try.underlying45 ty5 (by kernel_rfl) (by kernel_rfl) (by kernel_rfl) (by kernel_rfl) (len_all (fun _ => rfl)) hI ?_)
  intro b14 w hI
  obtain ⟨hg15, h0⟩ := guardS h0
  have hI := hI.mono (pick2 _ _ _)
  refine oC (Does.append (d := 22) (t := 45) (tx := 45) (ty := 45) (ys := x2) (zs := ([wu8 x1] : List Int)) (x := .slice (some ⟨b14, 0, none⟩) (([wu8 x1] : List Int).length) 1) (by kernel_rfl) Go.Proofs.Try.underlying45 ty5 (by kernel_rfl) hI (src_own Go.Proofs.Try.underlying45 (hI.mono (pick2 _ _ _)) (one_flat _ (fun _ => rfl))) (ownS_facts (hI.mono (pick2 _ _ _))).2.2 (by unfold LIM at hg15; omega) hg15 ?_)
  intro A16 cp17 w hI
  refine oC (Does.b2sOwn (d := 23) (src := 45) (dst := 9) (xs := x2 ++ ([wu8 x1] : List Int)) (by kernel_rfl) Go.Proofs.Try.underlying45 Go.Proofs.Try.underlying5 Go.Proofs.Try.underlying9 hI ?_)
  refine oP (r := []) [6] (S' := [(2, .string (strOfNums (x2 ++ ([wu8 x1] : List Int))))]) (by kernel_rfl) ?_
  refine oD ?_
  refine qT ?_
  refine CodT.ret ?_
  have hI := hI.drop
  have hI := hI.drop
  have e := someS h0
  subst e
  refine qK [2] (S' := [(2, .string (strOfNums (x2 ++ ([wu8 x1] : List Int))))]) (by kernel_rfl) ?_
  exact post_ret (v := .string (strOfNums (x2 ++ ([wu8 x1] : List Int)))) (fun a ha => RunRes.run (vs := [.string (strOfNums (x2 ++ ([wu8 x1] : List Int)))]) (.tmp (t := 2) (by kernel_rfl) .nil) ha (by kernel_rfl)) ⟨rfl, hI⟩
/-- cenotaph/cenotaphref04.Text -/
theorem c58 (w0 w : World) (Z : Hp) (A : HP) (hI : Inv w0 Z w A) (a0 : ByteArray) (r : ByteArray) (h0 : ref04_Text a0 = some r) :
  Calls prog 58 #[.string a0] w (fun e w' => e = .returned (.string r) ∧ Inv w0 Z w' A) := by
 have e4 := calls_intro (R := (fun e w' => e = .returned (.string r) ∧ Inv w0 Z w' A)) (w := w) (args := [.string a0]) (fn := Go.Proofs.Try.f58) 8 Go.Proofs.Try.func58 (by rfl) Go.Proofs.Try.ntmps58 (by kernel_rfl)
 refine e4 ?_
 clear e4
 unfold ref04_Text at h0
 refine cQ ?_
 refine cR [0] (by kernel_rfl) ?_
 refine oP (r := []) [0] (S' := [(0, .string a0)]) (by kernel_rfl) ?_
 refine oD ?_
 refine qT ?_
 refine cQ ?_
 refine cR [0, 1, 2, 3, 4, 5] (by kernel_rfl) ?_
 refine oP (r := [2, 3, 4, 5]) [0, 1] (S' := [(0, .string a0), (4, iv (a0.size : Int))]) (by kernel_rfl) ?_
 obtain ⟨y2, hc1, h0⟩ := bindS h0
 try dsimp only at h0
 refine oC (Does.call (d := some 5) (n := 57) (vs := [iv (a0.size : Int)]) (by kernel_rfl) en57 (c57 w0 w _ _ hI (a0.size : Int) _ hc1) ?_)
 rintro e w ⟨rfl, hI⟩
 refine ⟨_, rfl, ?_⟩
 refine oP (r := [4, 5]) [3] (S' := [(5, .string y2), (6, .string a0)]) (by kernel_rfl) ?_
 obtain ⟨hg3, h0⟩ := guardS h0
 refine oC (Does.yi (Yl.cat (d := 7) (T := 9) (x := y2) (y := a0) (by kernel_rfl) hg3) hI ?_)
 refine oP (r := []) [5] (S' := [(2, .string (y2 ++ a0))]) (by kernel_rfl) ?_
 refine oD ?_
 refine qT ?_
 refine CodT.ret ?_
 have e := someS h0
 subst e
 refine qK [2] (S' := [(2, .string (y2 ++ a0))]) (by kernel_rfl) ?_
 exact post_ret (v := .string (y2 ++ a0)) (fun a ha => RunRes.run (vs := [.string (y2 ++ a0)]) (.tmp (t := 2) (by kernel_rfl) .nil) ha (by kernel_rfl)) ⟨rfl, hI⟩
/-- cenotaph/cenotaphref02.Bytes -/
theorem c40 (w0 w : World) (Z : Hp) (A : HP) (hI : Inv w0 Z w A) (a0 : (List Int)) (hl_a0 : a0.length = 32) (r : ByteArray) (h0 : ref02_Bytes a0 = some r) :
  Calls prog 40 #[.agg (cA (Value.int .u8) a0).toArray] w (fun e w' => e = .returned (.string r) ∧ Inv w0 Z w' A) := by
 have e4 := calls_intro (R := (fun e w' => e = .returned (.string r) ∧ Inv w0 Z w' A)) (w := w) (args := [.agg (cA (Value.int .u8) a0).toArray]) (fn := Go.Proofs.Try.f40) 17 Go.Proofs.Try.func40 (by rfl) Go.Proofs.Try.ntmps40 (by kernel_rfl)
 refine e4 ?_
 clear e4
 unfold ref02_Bytes at h0
 refine cQ ?_
 refine cR [0, 1] (by kernel_rfl) ?_
 refine oC (Does.boxL (d := 1) (T := 29) (v := .agg (cA (Value.int .u8) a0).toArray) (cA (Value.int .u8) a0) (by kernel_rfl) hI (by kernel_rfl) ?_)
 intro b1 w hI
 refine oP (r := []) [1] (S' := [(1, pb b1)]) (by kernel_rfl) ?_
 refine oD ?_
 refine qT ?_
 refine cQ ?_
 refine cR [0] (by kernel_rfl) ?_
 refine oP (r := []) [0] (S' := [(1, pb b1), (3, .slice none 0 0)]) (by kernel_rfl) ?_
 refine oD ?_
 refine qT ?_
 refine cQ ?_
 refine cQ ?_
 refine cR [0] (by kernel_rfl) ?_
 refine oP (r := []) [0] (S' := [(1, pb b1), (3, .slice none 0 0), (4, iv 0)]) (by kernel_rfl) ?_
 refine oD ?_
 refine qT ?_
 obtain ⟨r1, h1, h0⟩ := bindS h0
 refine CodT.meet1 (fun a w => ∃ (x2 : (List Int)) (A3 : Option Addr) (cp4 : Nat), x2 = r1 ∧ Fr 17 [(3, .slice A3 x2.length cp4)] a ∧ Inv w0 Z w (star (ownS 5 (cI .u8) 1 A3 cp4 x2) A)) ?_ ?_
 ·
  refine CodT.block ?_
  have hI := ownS_nil (α := Int) hI 5 (cI .u8) 1
  refine (fun a ha => wp_loopN (fun k a w => ∃ (x5 : (List Int)) (x8 : Int) (A6 : Option Addr) (cp7 : Nat), ref02_Bytes.l0 a0 k x5 x8 = some r1 ∧ Fr 17 [(1, pb b1), (3, .slice A6 x5.length cp7), (4, iv x8)] a ∧ Inv w0 Z w (star (ownS 5 (cI .u8) 1 A6 cp7 x5) (star (pt b1 (.cells (cA (Value.int .u8) a0).toArray 29 (0, 0))) A))) ?_ FU a w ⟨([] : List Int), 0, none, 0, h1, ha.keep [1, 3, 4] (by kernel_rfl), hI⟩)
  clear h1 hI
  rintro k a w ⟨x5, x8, A6, cp7, h1, ha, hI⟩
  rcases k with _ | k
  ·
   cases h1
  simp only [ref02_Bytes.l0] at h1
  refine CodT.of ?_ ha
  refine cQ ?_
  refine cQ ?_
  refine cR [0, 1] (by kernel_rfl) ?_
  refine oP (r := []) [0, 1] (S' := [(1, pb b1), (3, .slice A6 x5.length cp7), (4, iv x8), (6, .bool (decide (x8 < 32)))]) (by kernel_rfl) ?_
  refine oD ?_
  refine qT ?_
  by_cases hb9 : (decide (x8 < 32)) = true
  ·
   rw [if_pos hb9] at h1
   refine CodT.yes' (b := decide (x8 < 32)) (by kernel_rfl) hb9 ?_
   refine CodT.skip ?_
   refine qT ?_
   refine cQ ?_
   refine CodT.block ?_
   refine cR [0, 1, 2, 3, 4, 5, 6] (by kernel_rfl) ?_
   refine oP (r := [2, 3, 4, 5, 6]) [0, 1] (S' := [(1, pb b1), (4, iv x8), (9, .slice A6 x5.length cp7), (10, iv x8)]) (by kernel_rfl) ?_
   obtain ⟨hg10, h1⟩ := guardS h1
   refine oC (Does.yi (Yl.indexArr (d := 11) (T := 29) (k := .i64) (j := x8) (g := b1) (o := 0) (by kernel_rfl) Go.Proofs.Try.underlying29 ty5 hg10.1 hg10.2) hI ?_)
   refine oC (Does.yi (Yl.load (d := 12) (T := 5) (v := .int .u8 (gt a0 x8)) (by kernel_rfl) (ldB ty5 (l := cA (Value.int .u8) a0) (o := 0 + x8.toNat * 1) (v := .int .u8 (gt a0 x8)) (pick2 _ _ _) (arr_get _ _ hg10.1 (by have := And.intro hl_a0 hg10.2; omega)))) hI ?_)
   refine oC (Does.buildSlice (en := (cI .u8)) (d := 13) (n := 1) (T := 45) (ps := [(0, .int .u8 (gt a0 x8))]) ([gt a0 x8] : List Int) (by kernel_rfl) Go.Proofs.Try.underlying45 ty5 (by kernel_rfl) (by kernel_rfl) (by kernel_rfl) (by kernel_rfl) (len_all (fun _ => rfl)) hI ?_)
   intro b11 w hI
   obtain ⟨hg12, h1⟩ := guardS h1
   have hI := hI.mono (pick2 _ _ _)
   refine oC (Does.append (d := 14) (t := 45) (tx := 45) (ty := 45) (ys := x5) (zs := ([gt a0 x8] : List Int)) (x := .slice (some ⟨b11, 0, none⟩) (([gt a0 x8] : List Int).length) 1) (by kernel_rfl) Go.Proofs.Try.underlying45 ty5 (by kernel_rfl) hI (src_own Go.Proofs.Try.underlying45 (hI.mono (pick2 _ _ _)) (one_flat _ (fun _ => rfl))) (ownS_facts (hI.mono (pick2 _ _ _))).2.2 (by unfold LIM at hg12; omega) hg12 ?_)
   intro A13 cp14 w hI
   refine oP (r := []) [6] (S' := [(1, pb b1), (3, .slice A13 ((x5 ++ ([gt a0 x8] : List Int)).length) cp14), (4, iv x8)]) (by kernel_rfl) ?_
   refine oD ?_
   refine Qn.block_normal ?_
   refine qT ?_
   refine cR [0, 1, 2] (by kernel_rfl) ?_
   refine oP (r := []) [0, 1, 2] (S' := [(1, pb b1), (3, .slice A13 ((x5 ++ ([gt a0 x8] : List Int)).length) cp14), (4, iv (wi64 (x8 + 1)))]) (by kernel_rfl) ?_
   refine oD ?_
   have hI := hI.mono (pick2 _ _ _)
   have hI := hI.drop
   exact Qn.thenJ fun a ha => ⟨k, Nat.lt_succ_self k, x5 ++ ([gt a0 x8] : List Int), wi64 (x8 + 1), A13, cp14, h1, ha.keep [1, 3, 4] (by kernel_rfl), hI⟩
  ·
   rw [if_neg hb9] at h1
   refine CodT.no' (b := decide (x8 < 32)) (by kernel_rfl) (by simpa using hb9) ?_
   refine CodT.exit ?_
   refine Qn.exit_then ?_
   refine Qn.exit_then ?_
   refine Qn.block ?_
   have hI := hI.mono (pick2 _ _ _)
   have hI := hI.drop
   have e := someS h1
   subst e
   exact Qn.thenJ fun a ha => ⟨x5, A6, cp7, rfl, ha.keep [3] (by kernel_rfl), hI⟩
 ·
  rintro a w ⟨x2, A3, cp4, rfl, ha, hI⟩
  try dsimp only at h0
  refine Qn.of ?_ ha
  refine qT ?_
  refine cQ ?_
  refine cR [0, 1, 2] (by kernel_rfl) ?_
  refine oP (r := [1, 2]) [0] (S' := [(15, .slice A3 x2.length cp4)]) (by kernel_rfl) ?_
  refine oC (Does.b2sOwn (d := 16) (src := 45) (dst := 9) (xs := x2) (by kernel_rfl) Go.Proofs.Try.underlying45 Go.Proofs.Try.underlying5 Go.Proofs.Try.underlying9 hI ?_)
  refine oP (r := []) [2] (S' := [(2, .string (strOfNums x2))]) (by kernel_rfl) ?_
  refine oD ?_
  refine qT ?_
  refine CodT.ret ?_
  have hI := hI.drop
  have e := someS h0
  subst e
  refine qK [2] (S' := [(2, .string (strOfNums x2))]) (by kernel_rfl) ?_
  exact post_ret (v := .string (strOfNums x2)) (fun a ha => RunRes.run (vs := [.string (strOfNums x2)]) (.tmp (t := 2) (by kernel_rfl) .nil) ha (by kernel_rfl)) ⟨rfl, hI⟩
/-- cenotaph/cenotaphref04.Sum -/
theorem c59 (w0 w : World) (Z : Hp) (A : HP) (hI : Inv w0 Z w A) (a0 : (List Int)) (hl_a0 : a0.length = 32) (r : ByteArray) (h0 : ref04_Sum a0 = some r) :
  Calls prog 59 #[.agg (cA (Value.int .u8) a0).toArray] w (fun e w' => e = .returned (.string r) ∧ Inv w0 Z w' A) := by
 have e4 := calls_intro (R := (fun e w' => e = .returned (.string r) ∧ Inv w0 Z w' A)) (w := w) (args := [.agg (cA (Value.int .u8) a0).toArray]) (fn := Go.Proofs.Try.f59) 5 Go.Proofs.Try.func59 (by rfl) Go.Proofs.Try.ntmps59 (by kernel_rfl)
 refine e4 ?_
 clear e4
 unfold ref04_Sum at h0
 refine cQ ?_
 refine cR [0, 1] (by kernel_rfl) ?_
 refine oC (Does.boxL (d := 1) (T := 29) (v := .agg (cA (Value.int .u8) a0).toArray) (cA (Value.int .u8) a0) (by kernel_rfl) hI (by kernel_rfl) ?_)
 intro b1 w hI
 refine oP (r := []) [1] (S' := [(1, pb b1)]) (by kernel_rfl) ?_
 refine oD ?_
 refine qT ?_
 refine cQ ?_
 refine cR [0, 1, 2] (by kernel_rfl) ?_
 refine oC (Does.yi (Yl.load (d := 3) (T := 29) (v := .agg (cA (Value.int .u8) a0).toArray) (by kernel_rfl) (ldBN ty29 (l := cA (Value.int .u8) a0) (o := 0) (cs := cA (Value.int .u8) a0) (ent_refl _) ((cA_length _ _).trans hl_a0) (whole _ _ ((cA_length _ _).trans hl_a0)))) hI ?_)
 obtain ⟨y3, hc2, h0⟩ := bindS h0
 try dsimp only at h0
 refine oC (Does.call (d := some 4) (n := 40) (vs := [.agg (cA (Value.int .u8) a0).toArray]) (by kernel_rfl) en40 (c40 w0 w _ _ hI a0 hl_a0 _ hc2) ?_)
 rintro e w ⟨rfl, hI⟩
 refine ⟨_, rfl, ?_⟩
 refine oP (r := []) [2] (S' := [(2, .string y3)]) (by kernel_rfl) ?_
 refine oD ?_
 refine qT ?_
 refine CodT.ret ?_
 have hI := hI.drop
 have e := someS h0
 subst e
 refine qK [2] (S' := [(2, .string y3)]) (by kernel_rfl) ?_
 exact post_ret (v := .string y3) (fun a ha => RunRes.run (vs := [.string y3]) (.tmp (t := 2) (by kernel_rfl) .nil) ha (by kernel_rfl)) ⟨rfl, hI⟩
/-- cenotaph/cenotaphref05.Put -/
theorem c39 (w0 w : World) (Z : Hp) (A : HP) (hI : Inv w0 Z w A) (a0 : ApiEvent) (hl1 : a0.Sum.length = 32) (r : (ByteArray × Bool)) (h0 : ref05_Put a0 = some r) :
  Calls prog 39 #[.agg (c_ApiEvent a0).toArray] w (fun e w' => e = .returned (.tuple #[.string r.1, .bool r.2]) ∧ Inv w0 Z w' A) := by
 have e4 := calls_intro (R := (fun e w' => e = .returned (.tuple #[.string r.1, .bool r.2]) ∧ Inv w0 Z w' A)) (w := w) (args := [.agg (c_ApiEvent a0).toArray]) (fn := Go.Proofs.Try.f39) 53 Go.Proofs.Try.func39 (by rfl) Go.Proofs.Try.ntmps39 (by kernel_rfl)
 refine e4 ?_
 clear e4
 unfold ref05_Put at h0
 refine cQ ?_
 refine cR [0, 1, 2] (by kernel_rfl) ?_
 refine oC (Does.boxL (d := 1) (T := 42) (v := .agg (c_ApiEvent a0).toArray) (c_ApiEvent a0) (by kernel_rfl) hI (by kernel_rfl) ?_)
 intro b2 w hI
 refine oP (r := []) [1, 2] (S' := [(1, pb b2)]) (by kernel_rfl) ?_
 refine oD ?_
 refine qT ?_
 refine cQ ?_
 refine cR [0, 1, 2] (by kernel_rfl) ?_
 refine oC (Does.yi (Yl.load (d := 7) (T := 42) (v := .agg (c_ApiEvent a0).toArray) (by kernel_rfl) (ldBN ty42 (l := c_ApiEvent a0) (o := 0) (cs := c_ApiEvent a0) (ent_refl _) (len_ApiEvent _ hl1) (whole _ _ (len_ApiEvent _ hl1)))) hI ?_)
 obtain ⟨y4, hc3, h0⟩ := bindS h0
 try dsimp only at h0
 refine oC (Does.call (d := some 8) (n := 55) (vs := [.agg (c_ApiEvent a0).toArray]) (by kernel_rfl) en55 (c55 w0 w _ _ hI a0 hl1 _ hc3) ?_)
 rintro e w ⟨rfl, hI⟩
 refine ⟨_, rfl, ?_⟩
 refine oP (r := []) [2] (S' := [(1, pb b2), (4, .bool y4)]) (by kernel_rfl) ?_
 refine oD ?_
 refine qT ?_
 refine cQ ?_
 refine cQ ?_
 refine cR [0, 1] (by kernel_rfl) ?_
 refine oP (r := []) [0, 1] (S' := [(1, pb b2), (10, .bool (!y4))]) (by kernel_rfl) ?_
 refine oD ?_
 refine qT ?_
 by_cases hb5 : (!y4) = true
 ·
  rw [if_pos hb5] at h0
  refine CodT.yes' (b := !y4) (by kernel_rfl) hb5 ?_
  refine cQ ?_
  refine cR [0, 1] (by kernel_rfl) ?_
  refine oP (r := []) [0, 1] (S' := [(2, .string (⟨#[]⟩ : ByteArray)), (3, .bool false)]) (by kernel_rfl) ?_
  refine oD ?_
  refine qT ?_
  refine CodT.ret ?_
  refine Qn.ret_then ?_
  have hI := hI.drop
  have e := someS h0
  subst e
  refine qK [2, 3] (S' := [(2, .string (⟨#[]⟩ : ByteArray)), (3, .bool false)]) (by kernel_rfl) ?_
  exact post_ret (v := .tuple #[.string (⟨#[]⟩ : ByteArray), .bool false]) (fun a ha => RunRes.run (vs := [.string (⟨#[]⟩ : ByteArray), .bool false]) (.tmp (t := 2) (by kernel_rfl) (.tmp (t := 3) (by kernel_rfl) .nil)) ha (by kernel_rfl)) ⟨rfl, hI⟩
 ·
  rw [if_neg hb5] at h0
  refine CodT.no' (b := !y4) (by kernel_rfl) (by simpa using hb5) ?_
  refine CodT.skip ?_
  refine qT ?_
  refine cQ ?_
  refine cR [0, 1, 2, 3, 4] (by kernel_rfl) ?_
  refine oP (r := [1, 2, 3, 4]) [0] (S' := [(1, pb b2), (11, pb b2)]) (by kernel_rfl) ?_
  refine oC (Does.yi (Yl.load (d := 12) (T := 40) (v := iv a0.Kind) (by kernel_rfl) (ldB ty40 (l := c_ApiEvent a0) (o := 0) (v := iv a0.Kind) (ent_refl _) (by kernel_rfl))) hI ?_)
  obtain ⟨y7, hc6, h0⟩ := bindS h0
  try dsimp only at h0
  refine oC (Does.call (d := some 13) (n := 56) (vs := [iv a0.Kind]) (by kernel_rfl) en56 (c56 w0 w _ _ hI a0.Kind _ hc6) ?_)
  rintro e w ⟨rfl, hl8, hI⟩
  refine ⟨_, rfl, ?_⟩
  refine oC (Does.allocL (d := 5) (T := 102) (cA Value.bool (List.replicate 5 (false : Bool))) (by kernel_rfl) ty102 hI (by kernel_rfl) ?_)
  intro b9 w hI
  refine oC (Does.storeAll (T := 102) (b := b9) (n := 5) (xs := (List.replicate 5 (false : Bool))) (ys := y7) (by kernel_rfl) ty102 hI (fun _ => rfl) (by kernel_rfl) hl8 ?_)
  intro w hI
  refine oD ?_
  refine qT ?_
  refine cQ ?_
  refine cR [0, 1, 2, 3] (by kernel_rfl) ?_
  refine oP (r := [1, 2, 3]) [0] (S' := [(1, pb b2), (5, pb b9), (14, pb b2)]) (by kernel_rfl) ?_
  refine oC (Does.yi (Yl.load (d := 15) (T := 40) (v := iv a0.Kind) (by kernel_rfl) (ldB ty40 (l := c_ApiEvent a0) (o := 0) (v := iv a0.Kind) (pick2 _ _ _) (by kernel_rfl))) hI ?_)
  obtain ⟨y11, hc10, h0⟩ := bindS h0
  try dsimp only at h0
  refine oC (Does.call (d := some 16) (n := 57) (vs := [iv a0.Kind]) (by kernel_rfl) en57 (c57 w0 w _ _ hI a0.Kind _ hc10) ?_)
  rintro e w ⟨rfl, hI⟩
  refine ⟨_, rfl, ?_⟩
  refine oP (r := []) [3] (S' := [(1, pb b2), (5, pb b9), (6, .string y11)]) (by kernel_rfl) ?_
  refine oD ?_
  refine qT ?_
  obtain ⟨r1, h1, h0⟩ := bindS h0
  refine CodT.meet (fun a w => ∃ (x12 : ByteArray), x12 = r1 ∧ Fr 53 [(1, pb b2), (5, pb b9), (6, .string x12)] a ∧ Inv w0 Z w (star (pt b9 (.cells (cA Value.bool y7).toArray 102 (0, 0))) (star (pt b2 (.cells (c_ApiEvent a0).toArray 42 (0, 0))) A))) ?_ ?_
  ·
   refine cQ ?_
   refine cR [0, 1] (by kernel_rfl) ?_
   refine oP (r := [1]) [0] (S' := [(1, pb b2), (5, pb b9), (6, .string y11), (17, pb b9)]) (by kernel_rfl) ?_
   refine oC (Does.yi (Yl.load (d := 18) (T := 4) (v := .bool (gt y7 0)) (by kernel_rfl) (ldB ty4 (l := cA Value.bool y7) (o := 0) (v := .bool (gt y7 0)) (ent_refl _) (arr_getC _ _ 0 hl8 (by kernel_rfl)))) hI ?_)
   refine oD ?_
   refine qT ?_
   by_cases hb13 : (gt y7 0) = true
   ·
    rw [if_pos hb13] at h1
    refine CodT.yes' (b := gt y7 0) (by kernel_rfl) hb13 ?_
    refine cR [0, 1, 2, 3, 4, 5] (by kernel_rfl) ?_
    refine oP (r := [2, 3, 4, 5]) [0, 1] (S' := [(1, pb b2), (5, pb b9), (19, .string y11), (20, .pointer (some ⟨b2, 1, none⟩))]) (by kernel_rfl) ?_
    refine oC (Does.yi (Yl.load (d := 21) (T := 3) (v := iv a0.ID) (by kernel_rfl) (ldB ty3 (l := c_ApiEvent a0) (o := 1) (v := iv a0.ID) (pick2 _ _ _) (by kernel_rfl))) hI ?_)
    obtain ⟨y15, hc14, h1⟩ := bindS h1
    try dsimp only at h1
    refine oC (Does.call (d := some 22) (n := 57) (vs := [iv a0.ID]) (by kernel_rfl) en57 (c57 w0 w _ _ hI a0.ID _ hc14) ?_)
    rintro e w ⟨rfl, hI⟩
    refine ⟨_, rfl, ?_⟩
    obtain ⟨hg16, h1⟩ := guardS h1
    refine oC (Does.yi (Yl.cat (d := 23) (T := 9) (x := y11) (y := y15) (by kernel_rfl) hg16) hI ?_)
    refine oP (r := []) [5] (S' := [(1, pb b2), (5, pb b9), (6, .string (y11 ++ y15))]) (by kernel_rfl) ?_
    refine oD ?_
    have e := someS h1
    subst e
    exact Qn.thenJ fun a ha => ⟨y11 ++ y15, rfl, ha.keep [1, 5, 6] (by kernel_rfl), hI⟩
   ·
    rw [if_neg hb13] at h1
    refine CodT.no' (b := gt y7 0) (by kernel_rfl) (by simpa using hb13) ?_
    refine CodT.skip ?_
    have e := someS h1
    subst e
    exact Qn.thenJ fun a ha => ⟨y11, rfl, ha.keep [1, 5, 6] (by kernel_rfl), hI⟩
  ·
   rintro a w ⟨x12, rfl, ha, hI⟩
   try dsimp only at h0
   refine CodT.of ?_ ha
   obtain ⟨r1, h1, h0⟩ := bindS h0
   refine CodT.meet (fun a w => ∃ (x17 : ByteArray), x17 = r1 ∧ Fr 53 [(1, pb b2), (5, pb b9), (6, .string x17)] a ∧ Inv w0 Z w (star (pt b9 (.cells (cA Value.bool y7).toArray 102 (0, 0))) (star (pt b2 (.cells (c_ApiEvent a0).toArray 42 (0, 0))) A))) ?_ ?_
   ·
    refine cQ ?_
    refine cR [0, 1] (by kernel_rfl) ?_
    refine oP (r := [1]) [0] (S' := [(1, pb b2), (5, pb b9), (6, .string x12), (24, .pointer (some ⟨b9, 1, none⟩))]) (by kernel_rfl) ?_
    refine oC (Does.yi (Yl.load (d := 25) (T := 4) (v := .bool (gt y7 1)) (by kernel_rfl) (ldB ty4 (l := cA Value.bool y7) (o := 1) (v := .bool (gt y7 1)) (ent_refl _) (arr_getC _ _ 1 hl8 (by kernel_rfl)))) hI ?_)
    refine oD ?_
    refine qT ?_
    by_cases hb18 : (gt y7 1) = true
    ·
     rw [if_pos hb18] at h1
     refine CodT.yes' (b := gt y7 1) (by kernel_rfl) hb18 ?_
     refine cR [0, 1, 2, 3, 4, 5] (by kernel_rfl) ?_
     refine oP (r := [2, 3, 4, 5]) [0, 1] (S' := [(1, pb b2), (5, pb b9), (26, .string x12), (27, .pointer (some ⟨b2, 2, none⟩))]) (by kernel_rfl) ?_
     refine oC (Does.yi (Yl.load (d := 28) (T := 9) (v := .string a0.Name) (by kernel_rfl) (ldB ty9 (l := c_ApiEvent a0) (o := 2) (v := .string a0.Name) (pick2 _ _ _) (by kernel_rfl))) hI ?_)
     obtain ⟨y20, hc19, h1⟩ := bindS h1
     try dsimp only at h1
     refine oC (Does.call (d := some 29) (n := 58) (vs := [.string a0.Name]) (by kernel_rfl) en58 (c58 w0 w _ _ hI a0.Name _ hc19) ?_)
     rintro e w ⟨rfl, hI⟩
     refine ⟨_, rfl, ?_⟩
     obtain ⟨hg21, h1⟩ := guardS h1
     refine oC (Does.yi (Yl.cat (d := 30) (T := 9) (x := x12) (y := y20) (by kernel_rfl) hg21) hI ?_)
     refine oP (r := []) [5] (S' := [(1, pb b2), (5, pb b9), (6, .string (x12 ++ y20))]) (by kernel_rfl) ?_
     refine oD ?_
     have e := someS h1
     subst e
     exact Qn.thenJ fun a ha => ⟨x12 ++ y20, rfl, ha.keep [1, 5, 6] (by kernel_rfl), hI⟩
    ·
     rw [if_neg hb18] at h1
     refine CodT.no' (b := gt y7 1) (by kernel_rfl) (by simpa using hb18) ?_
     refine CodT.skip ?_
     have e := someS h1
     subst e
     exact Qn.thenJ fun a ha => ⟨x12, rfl, ha.keep [1, 5, 6] (by kernel_rfl), hI⟩
   ·
    rintro a w ⟨x17, rfl, ha, hI⟩
    try dsimp only at h0
    refine CodT.of ?_ ha
    obtain ⟨r1, h1, h0⟩ := bindS h0
    refine CodT.meet (fun a w => ∃ (x22 : ByteArray), x22 = r1 ∧ Fr 53 [(1, pb b2), (5, pb b9), (6, .string x22)] a ∧ Inv w0 Z w (star (pt b9 (.cells (cA Value.bool y7).toArray 102 (0, 0))) (star (pt b2 (.cells (c_ApiEvent a0).toArray 42 (0, 0))) A))) ?_ ?_
    ·
     refine cQ ?_
     refine cR [0, 1] (by kernel_rfl) ?_
     refine oP (r := [1]) [0] (S' := [(1, pb b2), (5, pb b9), (6, .string x17), (31, .pointer (some ⟨b9, 2, none⟩))]) (by kernel_rfl) ?_
     refine oC (Does.yi (Yl.load (d := 32) (T := 4) (v := .bool (gt y7 2)) (by kernel_rfl) (ldB ty4 (l := cA Value.bool y7) (o := 2) (v := .bool (gt y7 2)) (ent_refl _) (arr_getC _ _ 2 hl8 (by kernel_rfl)))) hI ?_)
     refine oD ?_
     refine qT ?_
     by_cases hb23 : (gt y7 2) = true
     ·
      rw [if_pos hb23] at h1
      refine CodT.yes' (b := gt y7 2) (by kernel_rfl) hb23 ?_
      refine cR [0, 1, 2, 3, 4, 5] (by kernel_rfl) ?_
      refine oP (r := [2, 3, 4, 5]) [0, 1] (S' := [(1, pb b2), (5, pb b9), (33, .string x17), (34, .pointer (some ⟨b2, 3, none⟩))]) (by kernel_rfl) ?_
      refine oC (Does.yi (Yl.load (d := 35) (T := 3) (v := iv a0.Time) (by kernel_rfl) (ldB ty3 (l := c_ApiEvent a0) (o := 3) (v := iv a0.Time) (pick2 _ _ _) (by kernel_rfl))) hI ?_)
      obtain ⟨y25, hc24, h1⟩ := bindS h1
      try dsimp only at h1
      refine oC (Does.call (d := some 36) (n := 57) (vs := [iv a0.Time]) (by kernel_rfl) en57 (c57 w0 w _ _ hI a0.Time _ hc24) ?_)
      rintro e w ⟨rfl, hI⟩
      refine ⟨_, rfl, ?_⟩
      obtain ⟨hg26, h1⟩ := guardS h1
      refine oC (Does.yi (Yl.cat (d := 37) (T := 9) (x := x17) (y := y25) (by kernel_rfl) hg26) hI ?_)
      refine oP (r := []) [5] (S' := [(1, pb b2), (5, pb b9), (6, .string (x17 ++ y25))]) (by kernel_rfl) ?_
      refine oD ?_
      have e := someS h1
      subst e
      exact Qn.thenJ fun a ha => ⟨x17 ++ y25, rfl, ha.keep [1, 5, 6] (by kernel_rfl), hI⟩
     ·
      rw [if_neg hb23] at h1
      refine CodT.no' (b := gt y7 2) (by kernel_rfl) (by simpa using hb23) ?_
      refine CodT.skip ?_
      have e := someS h1
      subst e
      exact Qn.thenJ fun a ha => ⟨x17, rfl, ha.keep [1, 5, 6] (by kernel_rfl), hI⟩
    ·
     rintro a w ⟨x22, rfl, ha, hI⟩
     try dsimp only at h0
     refine CodT.of ?_ ha
     obtain ⟨r1, h1, h0⟩ := bindS h0
     refine CodT.meet (fun a w => ∃ (x27 : ByteArray), x27 = r1 ∧ Fr 53 [(1, pb b2), (5, pb b9), (6, .string x27)] a ∧ Inv w0 Z w (star (pt b9 (.cells (cA Value.bool y7).toArray 102 (0, 0))) (star (pt b2 (.cells (c_ApiEvent a0).toArray 42 (0, 0))) A))) ?_ ?_
     ·
      refine cQ ?_
      refine cR [0, 1] (by kernel_rfl) ?_
      refine oP (r := [1]) [0] (S' := [(1, pb b2), (5, pb b9), (6, .string x22), (38, .pointer (some ⟨b9, 3, none⟩))]) (by kernel_rfl) ?_
      refine oC (Does.yi (Yl.load (d := 39) (T := 4) (v := .bool (gt y7 3)) (by kernel_rfl) (ldB ty4 (l := cA Value.bool y7) (o := 3) (v := .bool (gt y7 3)) (ent_refl _) (arr_getC _ _ 3 hl8 (by kernel_rfl)))) hI ?_)
      refine oD ?_
      refine qT ?_
      by_cases hb28 : (gt y7 3) = true
      ·
       rw [if_pos hb28] at h1
       refine CodT.yes' (b := gt y7 3) (by kernel_rfl) hb28 ?_
       refine cR [0, 1, 2, 3, 4, 5] (by kernel_rfl) ?_
       refine oP (r := [2, 3, 4, 5]) [0, 1] (S' := [(1, pb b2), (5, pb b9), (40, .string x22), (41, .pointer (some ⟨b2, 4, none⟩))]) (by kernel_rfl) ?_
       refine oC (Does.yi (Yl.load (d := 42) (T := 3) (v := iv a0.Len) (by kernel_rfl) (ldB ty3 (l := c_ApiEvent a0) (o := 4) (v := iv a0.Len) (pick2 _ _ _) (by kernel_rfl))) hI ?_)
       obtain ⟨y30, hc29, h1⟩ := bindS h1
       try dsimp only at h1
       refine oC (Does.call (d := some 43) (n := 57) (vs := [iv a0.Len]) (by kernel_rfl) en57 (c57 w0 w _ _ hI a0.Len _ hc29) ?_)
       rintro e w ⟨rfl, hI⟩
       refine ⟨_, rfl, ?_⟩
       obtain ⟨hg31, h1⟩ := guardS h1
       refine oC (Does.yi (Yl.cat (d := 44) (T := 9) (x := x22) (y := y30) (by kernel_rfl) hg31) hI ?_)
       refine oP (r := []) [5] (S' := [(1, pb b2), (5, pb b9), (6, .string (x22 ++ y30))]) (by kernel_rfl) ?_
       refine oD ?_
       have e := someS h1
       subst e
       exact Qn.thenJ fun a ha => ⟨x22 ++ y30, rfl, ha.keep [1, 5, 6] (by kernel_rfl), hI⟩
      ·
       rw [if_neg hb28] at h1
       refine CodT.no' (b := gt y7 3) (by kernel_rfl) (by simpa using hb28) ?_
       refine CodT.skip ?_
       have e := someS h1
       subst e
       exact Qn.thenJ fun a ha => ⟨x22, rfl, ha.keep [1, 5, 6] (by kernel_rfl), hI⟩
     ·
      rintro a w ⟨x27, rfl, ha, hI⟩
      try dsimp only at h0
      refine CodT.of ?_ ha
      obtain ⟨r1, h1, h0⟩ := bindS h0
      refine CodT.meet (fun a w => ∃ (x32 : ByteArray), x32 = r1 ∧ Fr 53 [(6, .string x32)] a ∧ Inv w0 Z w A) ?_ ?_
      ·
       refine cQ ?_
       refine cR [0, 1] (by kernel_rfl) ?_
       refine oP (r := [1]) [0] (S' := [(1, pb b2), (6, .string x27), (45, .pointer (some ⟨b9, 4, none⟩))]) (by kernel_rfl) ?_
       refine oC (Does.yi (Yl.load (d := 46) (T := 4) (v := .bool (gt y7 4)) (by kernel_rfl) (ldB ty4 (l := cA Value.bool y7) (o := 4) (v := .bool (gt y7 4)) (ent_refl _) (arr_getC _ _ 4 hl8 (by kernel_rfl)))) hI ?_)
       refine oD ?_
       refine qT ?_
       by_cases hb33 : (gt y7 4) = true
       ·
        rw [if_pos hb33] at h1
        refine CodT.yes' (b := gt y7 4) (by kernel_rfl) hb33 ?_
        refine cR [0, 1, 2, 3, 4, 5] (by kernel_rfl) ?_
        refine oP (r := [2, 3, 4, 5]) [0, 1] (S' := [(47, .string x27), (48, .pointer (some ⟨b2, 5, none⟩))]) (by kernel_rfl) ?_
        refine oC (Does.yi (Yl.load (d := 49) (T := 29) (v := .agg (cA (Value.int .u8) a0.Sum).toArray) (by kernel_rfl) (ldBN ty29 (l := c_ApiEvent a0) (o := 5) (cs := cA (Value.int .u8) a0.Sum) (pick2 _ _ _) ((cA_length _ _).trans hl1) (tail_take _ _ _ _ _ (by kernel_rfl) hl1))) hI ?_)
        obtain ⟨y35, hc34, h1⟩ := bindS h1
        try dsimp only at h1
        refine oC (Does.call (d := some 50) (n := 59) (vs := [.agg (cA (Value.int .u8) a0.Sum).toArray]) (by kernel_rfl) en59 (c59 w0 w _ _ hI a0.Sum hl1 _ hc34) ?_)
        rintro e w ⟨rfl, hI⟩
        refine ⟨_, rfl, ?_⟩
        obtain ⟨hg36, h1⟩ := guardS h1
        refine oC (Does.yi (Yl.cat (d := 51) (T := 9) (x := x27) (y := y35) (by kernel_rfl) hg36) hI ?_)
        refine oP (r := []) [5] (S' := [(6, .string (x27 ++ y35))]) (by kernel_rfl) ?_
        refine oD ?_
        have hI := hI.drop
        have hI := hI.drop
        have e := someS h1
        subst e
        exact Qn.thenJ fun a ha => ⟨x27 ++ y35, rfl, ha.keep [6] (by kernel_rfl), hI⟩
       ·
        rw [if_neg hb33] at h1
        refine CodT.no' (b := gt y7 4) (by kernel_rfl) (by simpa using hb33) ?_
        refine CodT.skip ?_
        have hI := hI.drop
        have hI := hI.drop
        have e := someS h1
        subst e
        exact Qn.thenJ fun a ha => ⟨x27, rfl, ha.keep [6] (by kernel_rfl), hI⟩
      ·
       rintro a w ⟨x32, rfl, ha, hI⟩
       try dsimp only at h0
       refine CodT.of ?_ ha
       refine cQ ?_
       refine cR [0, 1, 2] (by kernel_rfl) ?_
       refine oP (r := []) [0, 1, 2] (S' := [(2, .string x32), (3, .bool true)]) (by kernel_rfl) ?_
       refine oD ?_
       refine qT ?_
       refine CodT.ret ?_
       have e := someS h0
       subst e
       refine qK [2, 3] (S' := [(2, .string x32), (3, .bool true)]) (by kernel_rfl) ?_
       exact post_ret (v := .tuple #[.string x32, .bool true]) (fun a ha => RunRes.run (vs := [.string x32, .bool true]) (.tmp (t := 2) (by kernel_rfl) (.tmp (t := 3) (by kernel_rfl) .nil)) ha (by kernel_rfl)) ⟨rfl, hI⟩
/-- cenotaph/cenotaphref02.Link -/
theorem c54 (w0 w : World) (Z : Hp) (A : HP) (hI : Inv w0 Z w A) (a0 : (List Int)) (hl_a0 : a0.length = 32) (a1 : ByteArray) (r : (List Int)) (h0 : ref02_Link a0 a1 = some r) :
  Calls prog 54 #[.agg (cA (Value.int .u8) a0).toArray, .string a1] w (fun e w' => e = .returned (.agg (cA (Value.int .u8) r).toArray) ∧ r.length = 32 ∧ Inv w0 Z w' A) := by
 have e4 := calls_intro (R := (fun e w' => e = .returned (.agg (cA (Value.int .u8) r).toArray) ∧ r.length = 32 ∧ Inv w0 Z w' A)) (w := w) (args := [.agg (cA (Value.int .u8) a0).toArray, .string a1]) (fn := Go.Proofs.Try.f54) 10 Go.Proofs.Try.func54 (by rfl) Go.Proofs.Try.ntmps54 (by kernel_rfl)
 refine e4 ?_
 clear e4
 unfold ref02_Link at h0
 refine cQ ?_
 refine cR [0, 1] (by kernel_rfl) ?_
 refine oC (Does.boxL (d := 2) (T := 29) (v := .agg (cA (Value.int .u8) a0).toArray) (cA (Value.int .u8) a0) (by kernel_rfl) hI (by kernel_rfl) ?_)
 intro b1 w hI
 refine oC (Does.allocL (d := 4) (T := 29) (cA (Value.int .u8) (List.replicate 32 (0 : Int))) (by kernel_rfl) ty29 hI (by kernel_rfl) ?_)
 intro b2 w hI
 refine oD ?_
 refine qT ?_
 refine cQ ?_
 refine cR [0, 1, 2, 3, 4, 5] (by kernel_rfl) ?_
 refine oC (Does.yi (Yl.load (d := 5) (T := 29) (v := .agg (cA (Value.int .u8) a0).toArray) (by kernel_rfl) (ldBN ty29 (l := cA (Value.int .u8) a0) (o := 0) (cs := cA (Value.int .u8) a0) (pick2 _ _ _) ((cA_length _ _).trans hl_a0) (whole _ _ ((cA_length _ _).trans hl_a0)))) hI ?_)
 obtain ⟨y4, hc3, h0⟩ := bindS h0
 try dsimp only at h0
 refine oC (Does.call (d := some 6) (n := 40) (vs := [.agg (cA (Value.int .u8) a0).toArray]) (by kernel_rfl) en40 (c40 w0 w _ _ hI a0 hl_a0 _ hc3) ?_)
 rintro e w ⟨rfl, hI⟩
 refine ⟨_, rfl, ?_⟩
 refine oP (r := [3, 4, 5]) [2] (S' := [(4, pb b2), (6, .string y4), (7, .string a1)]) (by kernel_rfl) ?_
 obtain ⟨hg5, h0⟩ := guardS h0
 refine oC (Does.yi (Yl.cat (d := 8) (T := 9) (x := y4) (y := a1) (by kernel_rfl) hg5) hI ?_)
 obtain ⟨y7, hc6, h0⟩ := bindS h0
 try dsimp only at h0
 refine oC (Does.call (d := some 9) (n := 53) (vs := [.string (y4 ++ a1)]) (by kernel_rfl) en53 (c53 w0 w _ _ hI (y4 ++ a1) _ hc6) ?_)
 rintro e w ⟨rfl, hl8, hI⟩
 refine ⟨_, rfl, ?_⟩
 refine oC (Does.storeAll (T := 29) (b := b2) (n := 32) (xs := (List.replicate 32 (0 : Int))) (ys := y7) (by kernel_rfl) ty29 hI (fun _ => rfl) (by kernel_rfl) hl8 ?_)
 intro w hI
 refine oD ?_
 refine qT ?_
 refine CodT.ret ?_
 have hL9 := (ldBN ty29 (l := cA (Value.int .u8) y7) (o := 0) (cs := cA (Value.int .u8) y7) (ent_refl _) ((cA_length _ _).trans hl8) (whole _ _ ((cA_length _ _).trans hl8))) w hI
 have hI := hI.drop
 have hI := hI.drop
 have e := someS h0
 subst e
 refine qK [4] (S' := [(4, pb b2)]) (by kernel_rfl) ?_
 exact post_ret (v := .agg (cA (Value.int .u8) y7).toArray) (fun a ha => RunRes.run (vs := [.agg (cA (Value.int .u8) y7).toArray]) (.cell (t := 4) (T := 29) (ad := ⟨b2, 0, none⟩) (by kernel_rfl) hL9 .nil) ha (by kernel_rfl)) ⟨rfl, hl8, hI⟩
/-- cenotaph/cenotaphref06.Next -/
theorem c38 (w0 w : World) (Z : Hp) (A : HP) (hI : Inv w0 Z w A) (a0 : (List Int)) (hl_a0 : a0.length = 32) (a1 : ApiEvent) (hl1 : a1.Sum.length = 32) (r : ((List Int) × Bool)) (h0 : ref06_Next a0 a1 = some r) :
  Calls prog 38 #[.agg (cA (Value.int .u8) a0).toArray, .agg (c_ApiEvent a1).toArray] w (fun e w' => e = .returned (.tuple #[.agg (cA (Value.int .u8) r.1).toArray, .bool r.2]) ∧ r.1.length = 32 ∧ Inv w0 Z w' A) := by
 have e4 := calls_intro (R := (fun e w' => e = .returned (.tuple #[.agg (cA (Value.int .u8) r.1).toArray, .bool r.2]) ∧ r.1.length = 32 ∧ Inv w0 Z w' A)) (w := w) (args := [.agg (cA (Value.int .u8) a0).toArray, .agg (c_ApiEvent a1).toArray]) (fn := Go.Proofs.Try.f38) 19 Go.Proofs.Try.func38 (by rfl) Go.Proofs.Try.ntmps38 (by kernel_rfl)
 refine e4 ?_
 clear e4
 unfold ref06_Next at h0
 refine cQ ?_
 refine cR [0, 1, 2, 3] (by kernel_rfl) ?_
 refine oC (Does.boxL (d := 2) (T := 29) (v := .agg (cA (Value.int .u8) a0).toArray) (cA (Value.int .u8) a0) (by kernel_rfl) hI (by kernel_rfl) ?_)
 intro b2 w hI
 refine oC (Does.boxL (d := 3) (T := 42) (v := .agg (c_ApiEvent a1).toArray) (c_ApiEvent a1) (by kernel_rfl) hI (by kernel_rfl) ?_)
 intro b3 w hI
 refine oC (Does.allocL (d := 4) (T := 29) (cA (Value.int .u8) (List.replicate 32 (0 : Int))) (by kernel_rfl) ty29 hI (by kernel_rfl) ?_)
 intro b4 w hI
 refine oP (r := []) [3] (S' := [(2, pb b2), (3, pb b3), (4, pb b4)]) (by kernel_rfl) ?_
 refine oD ?_
 refine qT ?_
 refine cQ ?_
 refine cR [0, 1, 2, 3, 4, 5, 6] (by kernel_rfl) ?_
 refine oC (Does.yi (Yl.load (d := 9) (T := 42) (v := .agg (c_ApiEvent a1).toArray) (by kernel_rfl) (ldBN ty42 (l := c_ApiEvent a1) (o := 0) (cs := c_ApiEvent a1) (pick2 _ _ _) (len_ApiEvent _ hl1) (whole _ _ (len_ApiEvent _ hl1)))) hI ?_)
 obtain ⟨⟨y6, y7⟩, hc5, h0⟩ := bindS h0
 try dsimp only at h0
 refine oC (Does.call (d := some 10) (n := 39) (vs := [.agg (c_ApiEvent a1).toArray]) (by kernel_rfl) en39 (c39 w0 w _ _ hI a1 hl1 _ hc5) ?_)
 rintro e w ⟨rfl, hI⟩
 refine ⟨_, rfl, ?_⟩
 refine oP (r := []) [2, 3, 4, 5, 6] (S' := [(2, pb b2), (4, pb b4), (6, .string y6), (7, .bool y7)]) (by kernel_rfl) ?_
 refine oD ?_
 refine qT ?_
 refine cQ ?_
 refine cQ ?_
 refine cR [0, 1] (by kernel_rfl) ?_
 refine oP (r := []) [0, 1] (S' := [(2, pb b2), (4, pb b4), (6, .string y6), (14, .bool (!y7))]) (by kernel_rfl) ?_
 refine oD ?_
 refine qT ?_
 by_cases hb8 : (!y7) = true
 ·
  rw [if_pos hb8] at h0
  refine CodT.yes' (b := !y7) (by kernel_rfl) hb8 ?_
  refine cQ ?_
  refine cR [0, 1, 2] (by kernel_rfl) ?_
  refine oP (r := [1, 2]) [0] (S' := [(4, pb b4), (15, .agg (cA (Value.int .u8) ([0, 0, 0, 0, 0, 0, 0, 0, 0, 0, 0, 0, 0, 0, 0, 0, 0, 0, 0, 0, 0, 0, 0, 0, 0, 0, 0, 0, 0, 0, 0, 0] : List Int)).toArray)]) (by kernel_rfl) ?_
  refine oC (Does.storeAll (T := 29) (b := b4) (n := 32) (xs := (List.replicate 32 (0 : Int))) (ys := ([0, 0, 0, 0, 0, 0, 0, 0, 0, 0, 0, 0, 0, 0, 0, 0, 0, 0, 0, 0, 0, 0, 0, 0, 0, 0, 0, 0, 0, 0, 0, 0] : List Int)) (by kernel_rfl) ty29 hI (fun _ => rfl) (by kernel_rfl) (by kernel_rfl) ?_)
  intro w hI
  refine oP (r := []) [2] (S' := [(4, pb b4), (5, .bool false)]) (by kernel_rfl) ?_
  refine oD ?_
  refine qT ?_
  refine CodT.ret ?_
  refine Qn.ret_then ?_
  have hL9 := (ldBN ty29 (l := cA (Value.int .u8) ([0, 0, 0, 0, 0, 0, 0, 0, 0, 0, 0, 0, 0, 0, 0, 0, 0, 0, 0, 0, 0, 0, 0, 0, 0, 0, 0, 0, 0, 0, 0, 0] : List Int)) (o := 0) (cs := cA (Value.int .u8) ([0, 0, 0, 0, 0, 0, 0, 0, 0, 0, 0, 0, 0, 0, 0, 0, 0, 0, 0, 0, 0, 0, 0, 0, 0, 0, 0, 0, 0, 0, 0, 0] : List Int)) (ent_refl _) ((cA_length _ _).trans (by kernel_rfl)) (whole _ _ ((cA_length _ _).trans (by kernel_rfl)))) w hI
  have hI := hI.drop
  have hI := hI.drop
  have hI := hI.drop
  have e := someS h0
  subst e
  refine qK [4, 5] (S' := [(4, pb b4), (5, .bool false)]) (by kernel_rfl) ?_
  exact post_ret (v := .tuple #[.agg (cA (Value.int .u8) ([0, 0, 0, 0, 0, 0, 0, 0, 0, 0, 0, 0, 0, 0, 0, 0, 0, 0, 0, 0, 0, 0, 0, 0, 0, 0, 0, 0, 0, 0, 0, 0] : List Int)).toArray, .bool false]) (fun a ha => RunRes.run (vs := [.agg (cA (Value.int .u8) ([0, 0, 0, 0, 0, 0, 0, 0, 0, 0, 0, 0, 0, 0, 0, 0, 0, 0, 0, 0, 0, 0, 0, 0, 0, 0, 0, 0, 0, 0, 0, 0] : List Int)).toArray, .bool false]) (.cell (t := 4) (T := 29) (ad := ⟨b4, 0, none⟩) (by kernel_rfl) hL9 (.tmp (t := 5) (by kernel_rfl) .nil)) ha (by kernel_rfl)) ⟨rfl, (by kernel_rfl), hI⟩
 ·
  rw [if_neg hb8] at h0
  refine CodT.no' (b := !y7) (by kernel_rfl) (by simpa using hb8) ?_
  refine CodT.skip ?_
  refine qT ?_
  refine cQ ?_
  refine cR [0, 1, 2, 3, 4] (by kernel_rfl) ?_
  refine oC (Does.yi (Yl.load (d := 16) (T := 29) (v := .agg (cA (Value.int .u8) a0).toArray) (by kernel_rfl) (ldBN ty29 (l := cA (Value.int .u8) a0) (o := 0) (cs := cA (Value.int .u8) a0) (pick3 _ _ _ _) ((cA_length _ _).trans hl_a0) (whole _ _ ((cA_length _ _).trans hl_a0)))) hI ?_)
  refine oP (r := [2, 3, 4]) [1] (S' := [(4, pb b4), (16, .agg (cA (Value.int .u8) a0).toArray), (17, .string y6)]) (by kernel_rfl) ?_
  obtain ⟨y11, hc10, h0⟩ := bindS h0
  try dsimp only at h0
  refine oC (Does.call (d := some 18) (n := 54) (vs := [.agg (cA (Value.int .u8) a0).toArray, .string y6]) (by kernel_rfl) en54 (c54 w0 w _ _ hI a0 hl_a0 y6 _ hc10) ?_)
  rintro e w ⟨rfl, hl12, hI⟩
  refine ⟨_, rfl, ?_⟩
  refine oC (Does.storeAll (T := 29) (b := b4) (n := 32) (xs := (List.replicate 32 (0 : Int))) (ys := y11) (by kernel_rfl) ty29 hI (fun _ => rfl) (by kernel_rfl) hl12 ?_)
  intro w hI
  refine oP (r := []) [4] (S' := [(4, pb b4), (5, .bool true)]) (by kernel_rfl) ?_
  refine oD ?_
  refine qT ?_
  refine CodT.ret ?_
  have hL13 := (ldBN ty29 (l := cA (Value.int .u8) y11) (o := 0) (cs := cA (Value.int .u8) y11) (ent_refl _) ((cA_length _ _).trans hl12) (whole _ _ ((cA_length _ _).trans hl12))) w hI
  have hI := hI.drop
  have hI := hI.drop
  have hI := hI.drop
  have e := someS h0
  subst e
  refine qK [4, 5] (S' := [(4, pb b4), (5, .bool true)]) (by kernel_rfl) ?_
  exact post_ret (v := .tuple #[.agg (cA (Value.int .u8) y11).toArray, .bool true]) (fun a ha => RunRes.run (vs := [.agg (cA (Value.int .u8) y11).toArray, .bool true]) (.cell (t := 4) (T := 29) (ad := ⟨b4, 0, none⟩) (by kernel_rfl) hL13 (.tmp (t := 5) (by kernel_rfl) .nil)) ha (by kernel_rfl)) ⟨rfl, hl12, hI⟩
/-- cenotaph/cenotaphref06.Heads -/
theorem c23 (w0 w : World) (Z : Hp) (A : HP) (hI : Inv w0 Z w A) (A_a0 : Option Addr) (c_a0 : Nat) (a0 : (List ApiEvent)) (hr_a0 : RdS Z c_ApiEvent 37 A_a0 c_a0 a0) (r : (List (List Int))) (h0 : ref06_Heads a0 = some r) :
  Calls prog 23 #[.slice A_a0 a0.length c_a0] w (fun e w' => ∃ (A1 : Option Addr) (c1 : Nat), e = .returned (.slice A1 r.length c1) ∧ Inv w0 Z w' (star (ownS 29 (cA (Value.int .u8)) 32 A1 c1 r) A)) := by
 have e4 := calls_intro (R := (fun e w' => ∃ (A1 : Option Addr) (c1 : Nat), e = .returned (.slice A1 r.length c1) ∧ Inv w0 Z w' (star (ownS 29 (cA (Value.int .u8)) 32 A1 c1 r) A))) (w := w) (args := [.slice A_a0 a0.length c_a0]) (fn := Go.Proofs.Try.f23) 34 Go.Proofs.Try.func23 (by rfl) Go.Proofs.Try.ntmps23 (by kernel_rfl)
 refine e4 ?_
 clear e4
 unfold ref06_Heads at h0
 refine cQ ?_
 refine cR [0] (by kernel_rfl) ?_
 refine oP (r := []) [0] (S' := [(0, .slice A_a0 a0.length c_a0)]) (by kernel_rfl) ?_
 refine oD ?_
 refine qT ?_
 refine cQ ?_
 refine cR [0, 1, 2] (by kernel_rfl) ?_
 obtain ⟨y2, hc1, h0⟩ := bindS h0
 try dsimp only at h0
 refine oC (Does.call (d := some 8) (n := 37) (vs := []) (by kernel_rfl) en37 (c37 w0 w _ _ hI _ hc1) ?_)
 rintro e w ⟨rfl, hl3, hI⟩
 refine ⟨_, rfl, ?_⟩
 refine oC (Does.allocL (d := 3) (T := 29) (cA (Value.int .u8) (List.replicate 32 (0 : Int))) (by kernel_rfl) ty29 hI (by kernel_rfl) ?_)
 intro b4 w hI
 refine oC (Does.storeAll (T := 29) (b := b4) (n := 32) (xs := (List.replicate 32 (0 : Int))) (ys := y2) (by kernel_rfl) ty29 hI (fun _ => rfl) (by kernel_rfl) hl3 ?_)
 intro w hI
 refine oD ?_
 refine qT ?_
 refine cQ ?_
 refine cR [0, 1, 2] (by kernel_rfl) ?_
 refine oC (Does.yi (Yl.load (d := 9) (T := 29) (v := .agg (cA (Value.int .u8) y2).toArray) (by kernel_rfl) (ldBN ty29 (l := cA (Value.int .u8) y2) (o := 0) (cs := cA (Value.int .u8) y2) (ent_refl _) ((cA_length _ _).trans hl3) (whole _ _ ((cA_length _ _).trans hl3)))) hI ?_)
 refine oC (Does.buildSliceAll (en := (cA (Value.int .u8))) (d := 10) (n := 1) (T := 32) (ps := [(0, .agg (cA (Value.int .u8) y2).toArray)]) (fun y => .agg ((cA (Value.int .u8)) y).toArray) (fun _ => rfl) ([y2] : List (List Int)) (by kernel_rfl) rfl Go.Proofs.Try.underlying32 ty29 rfl (by kernel_rfl) (by kernel_rfl) (by decide +kernel) (List.forall_mem_cons.2 ⟨((cA_length _ _).trans hl3), (fun _ h => by cases h)⟩) hI ?_)
 intro b5 w hI
 refine oP (r := []) [2] (S' := [(0, .slice A_a0 a0.length c_a0), (3, pb b4), (4, .slice (some ⟨b5, 0, none⟩) (([y2] : List (List Int)).length) 1)]) (by kernel_rfl) ?_
 refine oD ?_
 refine qT ?_
 refine cQ ?_
 refine cQ ?_
 refine cR [0] (by kernel_rfl) ?_
 refine oP (r := []) [0] (S' := [(0, .slice A_a0 a0.length c_a0), (3, pb b4), (4, .slice (some ⟨b5, 0, none⟩) (([y2] : List (List Int)).length) 1), (5, iv 0)]) (by kernel_rfl) ?_
 refine oD ?_
 refine qT ?_
 obtain ⟨r1, h1, h0⟩ := bindS h0
 refine CodT.meet1 (fun a w => ∃ (x6 : (List (List Int))) (A7 : Option Addr) (cp8 : Nat), .inr x6 = r1 ∧ Fr 34 [(4, .slice A7 x6.length cp8)] a ∧ Inv w0 Z w (star (ownS 29 (cA (Value.int .u8)) 32 A7 cp8 x6) A)) ?_ ?_
 ·
  refine CodT.block ?_
  refine (fun a ha => wp_loopN (fun k a w => ∃ (x9 : (List (List Int))) (x12 : Int) (x13 : (List Int)) (A10 : Option Addr) (cp11 : Nat), ref06_Heads.l0 a0 k x9 x12 x13 = some r1 ∧ Fr 34 [(0, .slice A_a0 a0.length c_a0), (3, pb b4), (4, .slice A10 x9.length cp11), (5, iv x12)] a ∧ Inv w0 Z w (star (ownS 29 (cA (Value.int .u8)) 32 A10 cp11 x9) (star (pt b4 (.cells (cA (Value.int .u8) x13).toArray 29 (0, 0))) A)) ∧ x13.length = 32) ?_ FU a w ⟨([y2] : List (List Int)), 0, y2, (some ⟨b5, 0, none⟩), 1, h1, ha.keep [0, 3, 4, 5] (by kernel_rfl), hI, hl3⟩)
  clear h1 hI
  rintro k a w ⟨x9, x12, x13, A10, cp11, h1, ha, hI, hl14⟩
  rcases k with _ | k
  ·
   cases h1
  simp only [ref06_Heads.l0] at h1
  refine CodT.of ?_ ha
  refine cQ ?_
  refine cQ ?_
  refine cR [0, 1, 2, 3] (by kernel_rfl) ?_
  refine oP (r := []) [0, 1, 2, 3] (S' := [(0, .slice A_a0 a0.length c_a0), (3, pb b4), (4, .slice A10 x9.length cp11), (5, iv x12), (14, .bool (decide (x12 < (a0.length : Int))))]) (by kernel_rfl) ?_
  refine oD ?_
  refine qT ?_
  by_cases hb15 : (decide (x12 < (a0.length : Int))) = true
  ·
   rw [if_pos hb15] at h1
   refine CodT.yes' (b := decide (x12 < (a0.length : Int))) (by kernel_rfl) hb15 ?_
   refine CodT.skip ?_
   refine qT ?_
   refine cQ ?_
   refine CodT.block ?_
   obtain ⟨r2, h2, h1⟩ := bindS h1
   refine CodT.meet (fun a w => ∃ (x17 : (List Int)) (x19 : Bool) (b16 : Nat), (x17, x19) = r2 ∧ Fr 34 [(0, .slice A_a0 a0.length c_a0), (3, pb b4), (4, .slice A10 x9.length cp11), (5, iv x12), (6, pb b16), (7, .bool x19)] a ∧ Inv w0 Z w (star (pt b16 (.cells (cA (Value.int .u8) x17).toArray 29 (0, 0))) (star (pt b4 (.cells (cA (Value.int .u8) x13).toArray 29 (0, 0))) (star (ownS 29 (cA (Value.int .u8)) 32 A10 cp11 x9) A))) ∧ x17.length = 32) ?_ ?_
   ·
    refine CodT.drawI (n := 12) [10] (by kernel_rfl) (by kernel_rfl) hI ?_
    intro w hI
    refine GmT.p' 1 19 (.slice A_a0 a0.length c_a0) (by kernel_rfl) (by kernel_rfl) ?_
    refine GmT.p' 2 20 (iv x12) (by kernel_rfl) (by kernel_rfl) ?_
    refine GmT.r (i := 0) 2 (by kernel_rfl) (by kernel_rfl) (Yl.load (d := 18) (T := 29) (v := .agg (cA (Value.int .u8) x13).toArray) (by kernel_rfl) (ldBN ty29 (l := cA (Value.int .u8) x13) (o := 0) (cs := cA (Value.int .u8) x13) (pick2 _ _ _) ((cA_length _ _).trans hl14) (whole _ _ ((cA_length _ _).trans hl14)))) hI ?_
    obtain ⟨hg20, h2⟩ := guardS h2
    obtain ⟨g21, o25, hA22, hr23, hl24⟩ := RdS.get hr_a0 hg20.1 hg20.2
    refine GmT.r (i := 3) 2 (by kernel_rfl) (by kernel_rfl) (Yl.indexSlice (d := 21) (T := 22) (cc := c_a0) (k := .i64) (j := x12) (g := g21) (o := o25) (by kernel_rfl) Go.Proofs.Try.underlying22 ty42 hA22 hg20.1 hg20.2) hI ?_
    refine GmT.r (i := 4) 2 (by kernel_rfl) (by kernel_rfl) (Yl.load (d := 22) (T := 42) (v := .agg (c_ApiEvent (gt a0 x12)).toArray) (by kernel_rfl) (ldRN ty42 (cs := c_ApiEvent (gt a0 x12)) 0 (fun w hC => hr23 w0 w _ hC) hl24 (whole _ _ hl24))) hI ?_
    refine GmT.several [5, 9] (by kernel_rfl) rfl ?_
    intro i hi; simp only [List.mem_cons, List.not_mem_nil, or_false] at hi; rcases hi with rfl | rfl
    ·
     obtain ⟨⟨y27, y29⟩, hc26, h2⟩ := bindS h2
     try dsimp only at h2
     rw [lst_set]
     refine (Does.call (d := some 23) (n := 38) (vs := [.agg (cA (Value.int .u8) x13).toArray, .agg (c_ApiEvent (gt a0 x12)).toArray]) (by kernel_rfl) en38 (c38 w0 w _ _ hI x13 hl14 (gt a0 x12) (inv_ApiEvent _ hl24) _ hc26) ?_)
     rintro e w ⟨rfl, hl28, hI⟩
     refine ⟨_, rfl, ?_⟩
     refine ⟨fun _ _ => hI, ?_⟩
     refine GmT.p' 6 17 (.tuple #[.agg (cA (Value.int .u8) y27).toArray, .bool y29]) (by kernel_rfl) (by kernel_rfl) ?_
     refine GmT.p' 7 24 (.agg (cA (Value.int .u8) y27).toArray) (by kernel_rfl) (by kernel_rfl) ?_
     refine GmT.p' 8 25 (.bool y29) (by kernel_rfl) (by kernel_rfl) ?_
     refine GmT.o (i := 9) (by kernel_rfl) (Does.allocL (d := 6) (T := 29) (cA (Value.int .u8) (List.replicate 32 (0 : Int))) (by kernel_rfl) ty29 hI (by kernel_rfl) ?_)
     intro b30 w hI
     have hC := hI
     have hC := hC.drop
     refine ⟨fun _ _ => hC, ?_⟩
     refine GmT.o (i := 10) (by kernel_rfl) (Does.storeAll (T := 29) (b := b30) (n := 32) (xs := (List.replicate 32 (0 : Int))) (ys := y27) (by kernel_rfl) ty29 hI (fun _ => rfl) (by kernel_rfl) hl28 ?_)
     intro w hI
     refine ⟨fun h => absurd h (by decide), ?_⟩
     refine GmT.p' 11 7 (.bool y29) (by kernel_rfl) (by kernel_rfl) ?_
     refine GmT.done (by kernel_rfl) ?_
     have hI := hI.mono (pick2 _ _ _)
     have hI := hI.mono (pick3 _ _ _ _)
     have hI := hI.mono (pick3 _ _ _ _)
     have e := someS h2
     subst e
     exact Qn.thenJ fun a ha => ⟨y27, y29, b30, rfl, ha.keep [0, 3, 4, 5, 6, 7] (by kernel_rfl), hI, hl28⟩
    ·
     rw [lst_set]
     refine (Does.allocL (d := 6) (T := 29) (cA (Value.int .u8) (List.replicate 32 (0 : Int))) (by kernel_rfl) ty29 hI (by kernel_rfl) ?_)
     intro b31 w hI
     have hC := hI
     have hC := hC.drop
     refine ⟨fun _ _ => hC, ?_⟩
     obtain ⟨⟨y33, y35⟩, hc32, h2⟩ := bindS h2
     try dsimp only at h2
     refine GmT.o (i := 5) (by kernel_rfl) (Does.call (d := some 23) (n := 38) (vs := [.agg (cA (Value.int .u8) x13).toArray, .agg (c_ApiEvent (gt a0 x12)).toArray]) (by kernel_rfl) en38 (c38 w0 w _ _ hI x13 hl14 (gt a0 x12) (inv_ApiEvent _ hl24) _ hc32) ?_)
     rintro e w ⟨rfl, hl34, hI⟩
     refine ⟨_, rfl, ?_⟩
     have hC := hI
     have hC := hC.drop
     refine ⟨fun _ _ => hC, ?_⟩
     refine GmT.p' 6 17 (.tuple #[.agg (cA (Value.int .u8) y33).toArray, .bool y35]) (by kernel_rfl) (by kernel_rfl) ?_
     refine GmT.p' 7 24 (.agg (cA (Value.int .u8) y33).toArray) (by kernel_rfl) (by kernel_rfl) ?_
     refine GmT.p' 8 25 (.bool y35) (by kernel_rfl) (by kernel_rfl) ?_
     refine GmT.o (i := 10) (by kernel_rfl) (Does.storeAll (T := 29) (b := b31) (n := 32) (xs := (List.replicate 32 (0 : Int))) (ys := y33) (by kernel_rfl) ty29 hI (fun _ => rfl) (by kernel_rfl) hl34 ?_)
     intro w hI
     refine ⟨fun h => absurd h (by decide), ?_⟩
     refine GmT.p' 11 7 (.bool y35) (by kernel_rfl) (by kernel_rfl) ?_
     refine GmT.done (by kernel_rfl) ?_
     have hI := hI.mono (pick2 _ _ _)
     have hI := hI.mono (pick3 _ _ _ _)
     have hI := hI.mono (pick3 _ _ _ _)
     have e := someS h2
     subst e
     exact Qn.thenJ fun a ha => ⟨y33, y35, b31, rfl, ha.keep [0, 3, 4, 5, 6, 7] (by kernel_rfl), hI, hl34⟩
   ·
    rintro a w ⟨x17, x19, b16, rfl, ha, hI, hl18⟩
    try dsimp only at h1
    refine CodT.of ?_ ha
    refine cQ ?_
    refine cQ ?_
    refine cR [0, 1] (by kernel_rfl) ?_
    refine oP (r := []) [0, 1] (S' := [(0, .slice A_a0 a0.length c_a0), (3, pb b4), (4, .slice A10 x9.length cp11), (5, iv x12), (6, pb b16), (27, .bool (!x19))]) (by kernel_rfl) ?_
    refine oD ?_
    refine qT ?_
    by_cases hb36 : (!x19) = true
    ·
     rw [if_pos hb36] at h1
     refine CodT.yes' (b := !x19) (by kernel_rfl) hb36 ?_
     refine cQ ?_
     refine cR [0] (by kernel_rfl) ?_
     refine oP (r := []) [0] (S' := [(2, .slice none 0 0)]) (by kernel_rfl) ?_
     refine oD ?_
     refine qT ?_
     refine CodT.ret ?_
     refine Qn.ret_then ?_
     refine Qn.block_ret ?_
     refine Qn.ret_then ?_
     refine Qn.ret_then ?_
     refine Qn.block_ret ?_
     refine Qn.ret_then ?_
     refine Qn.ret_then ?_
     have hI := ownS_nil (α := (List Int)) hI 29 (cA (Value.int .u8)) 32
     have hI := hI.mono (pick2 _ _ _)
     have hI := hI.drop
     have hI := hI.mono (pick2 _ _ _)
     have hI := hI.drop
     have hI := hI.mono (pick2 _ _ _)
     have hI := hI.drop
     have e := someS h1
     subst e
     try dsimp only at h0
     have e := someS h0
     subst e
     refine qK [2] (S' := [(2, .slice none 0 0)]) (by kernel_rfl) ?_
     exact post_ret (v := .slice none 0 0) (fun a ha => RunRes.run (vs := [.slice none 0 0]) (.tmp (t := 2) (by kernel_rfl) .nil) ha (by kernel_rfl)) ⟨none, 0, rfl, hI⟩
    ·
     rw [if_neg hb36] at h1
     refine CodT.no' (b := !x19) (by kernel_rfl) (by simpa using hb36) ?_
     refine CodT.skip ?_
     refine qT ?_
     refine cQ ?_
     refine cR [0, 1] (by kernel_rfl) ?_
     refine oC (Does.yi (Yl.load (d := 28) (T := 29) (v := .agg (cA (Value.int .u8) x17).toArray) (by kernel_rfl) (ldBN ty29 (l := cA (Value.int .u8) x17) (o := 0) (cs := cA (Value.int .u8) x17) (ent_refl _) ((cA_length _ _).trans hl18) (whole _ _ ((cA_length _ _).trans hl18)))) hI ?_)
     have hI := hI.mono (pick2 _ _ _)
     refine oC (Does.storeAll (T := 29) (b := b4) (n := 32) (xs := x13) (ys := x17) (by kernel_rfl) ty29 hI (fun _ => rfl) hl14 hl18 ?_)
     intro w hI
     refine oD ?_
     refine qT ?_
     refine cR [0, 1, 2, 3, 4] (by kernel_rfl) ?_
     refine oP (r := [1, 2, 3, 4]) [0] (S' := [(0, .slice A_a0 a0.length c_a0), (3, pb b4), (5, iv x12), (29, .slice A10 x9.length cp11)]) (by kernel_rfl) ?_
     refine oC (Does.yi (Yl.load (d := 30) (T := 29) (v := .agg (cA (Value.int .u8) x17).toArray) (by kernel_rfl) (ldBN ty29 (l := cA (Value.int .u8) x17) (o := 0) (cs := cA (Value.int .u8) x17) (ent_refl _) ((cA_length _ _).trans hl18) (whole _ _ ((cA_length _ _).trans hl18)))) hI ?_)
     refine oC (Does.buildSliceAll (en := (cA (Value.int .u8))) (d := 31) (n := 1) (T := 32) (ps := [(0, .agg (cA (Value.int .u8) x17).toArray)]) (fun y => .agg ((cA (Value.int .u8)) y).toArray) (fun _ => rfl) ([x17] : List (List Int)) (by kernel_rfl) rfl Go.Proofs.Try.underlying32 ty29 rfl (by kernel_rfl) (by kernel_rfl) (by decide +kernel) (List.forall_mem_cons.2 ⟨((cA_length _ _).trans hl18), (fun _ h => by cases h)⟩) hI ?_)
     intro b37 w hI
     obtain ⟨hg38, h1⟩ := guardS h1
     have hI := hI.mono (pick4 _ _ _ _ _)
     refine oC (Does.append (d := 32) (t := 32) (tx := 32) (ty := 32) (ys := x9) (zs := ([x17] : List (List Int))) (x := .slice (some ⟨b37, 0, none⟩) (([x17] : List (List Int)).length) 1) (by kernel_rfl) Go.Proofs.Try.underlying32 ty29 (by kernel_rfl) hI (src_own Go.Proofs.Try.underlying32 (hI.mono (pick2 _ _ _)) (one_flat _ (fun u => ones_cA u))) (ownS_facts (hI.mono (pick2 _ _ _))).2.2 (by unfold LIM at hg38; omega) hg38 ?_)
     intro A39 cp40 w hI
     refine oP (r := []) [4] (S' := [(0, .slice A_a0 a0.length c_a0), (3, pb b4), (4, .slice A39 ((x9 ++ ([x17] : List (List Int))).length) cp40), (5, iv x12)]) (by kernel_rfl) ?_
     refine oD ?_
     refine Qn.block_normal ?_
     refine qT ?_
     refine cR [0, 1, 2] (by kernel_rfl) ?_
     refine oP (r := []) [0, 1, 2] (S' := [(0, .slice A_a0 a0.length c_a0), (3, pb b4), (4, .slice A39 ((x9 ++ ([x17] : List (List Int))).length) cp40), (5, iv (wi64 (x12 + 1)))]) (by kernel_rfl) ?_
     refine oD ?_
     have hI := hI.mono (pick2 _ _ _)
     have hI := hI.drop
     have hI := hI.mono (pick3 _ _ _ _)
     have hI := hI.drop
     exact Qn.thenJ fun a ha => ⟨k, Nat.lt_succ_self k, x9 ++ ([x17] : List (List Int)), wi64 (x12 + 1), x17, A39, cp40, h1, ha.keep [0, 3, 4, 5] (by kernel_rfl), hI, hl18⟩
  ·
   rw [if_neg hb15] at h1
   refine CodT.no' (b := decide (x12 < (a0.length : Int))) (by kernel_rfl) (by simpa using hb15) ?_
   refine CodT.exit ?_
   refine Qn.exit_then ?_
   refine Qn.exit_then ?_
   refine Qn.block ?_
   have hI := hI.mono (pick2 _ _ _)
   have hI := hI.drop
   have e := someS h1
   subst e
   exact Qn.thenJ fun a ha => ⟨x9, A10, cp11, rfl, ha.keep [4] (by kernel_rfl), hI⟩
 ·
  rintro a w ⟨x6, A7, cp8, rfl, ha, hI⟩
  try dsimp only at h0
  refine Qn.of ?_ ha
  refine qT ?_
  refine cQ ?_
  refine cR [0, 1] (by kernel_rfl) ?_
  refine oP (r := []) [0, 1] (S' := [(2, .slice A7 x6.length cp8)]) (by kernel_rfl) ?_
  refine oD ?_
  refine qT ?_
  refine CodT.ret ?_
  have e := someS h0
  subst e
  refine qK [2] (S' := [(2, .slice A7 x6.length cp8)]) (by kernel_rfl) ?_
  exact post_ret (v := .slice A7 x6.length cp8) (fun a ha => RunRes.run (vs := [.slice A7 x6.length cp8]) (.tmp (t := 2) (by kernel_rfl) .nil) ha (by kernel_rfl)) ⟨A7, cp8, rfl, hI⟩
/-- cenotaph/cenotaphref06.input -/
theorem c24 (w0 w : World) (Z : Hp) (A : HP) (hI : Inv w0 Z w A) (A_a0 : Option Addr) (c_a0 : Nat) (a0 : (List (List Int))) (hr_a0 : RdS Z (cA (Value.int .u8)) 32 A_a0 c_a0 a0) (A_a1 : Option Addr) (c_a1 : Nat) (a1 : (List ApiEvent)) (hr_a1 : RdS Z c_ApiEvent 37 A_a1 c_a1 a1) (a2 : Int) (r : ByteArray) (h0 : ref06_input a0 a1 a2 = some r) :
  Calls prog 24 #[.slice A_a0 a0.length c_a0, .slice A_a1 a1.length c_a1, iv a2] w (fun e w' => e = .returned (.string r) ∧ Inv w0 Z w' A) := by
 have e4 := calls_intro (R := (fun e w' => e = .returned (.string r) ∧ Inv w0 Z w' A)) (w := w) (args := [.slice A_a0 a0.length c_a0, .slice A_a1 a1.length c_a1, iv a2]) (fn := Go.Proofs.Try.f24) 28 Go.Proofs.Try.func24 (by rfl) Go.Proofs.Try.ntmps24 (by kernel_rfl)
 refine e4 ?_
 clear e4
 unfold ref06_input at h0
 refine cQ ?_
 refine cR [0] (by kernel_rfl) ?_
 refine oP (r := []) [0] (S' := [(0, .slice A_a0 a0.length c_a0), (1, .slice A_a1 a1.length c_a1), (2, iv a2)]) (by kernel_rfl) ?_
 refine oD ?_
 refine qT ?_
 refine cQ ?_
 refine cQ ?_
 refine cR [0, 1] (by kernel_rfl) ?_
 refine oP (r := []) [0, 1] (S' := [(0, .slice A_a0 a0.length c_a0), (1, .slice A_a1 a1.length c_a1), (2, iv a2), (10, .bool (a2 == 0))]) (by kernel_rfl) ?_
 refine oD ?_
 refine qT ?_
 by_cases hb1 : (a2 == 0) = true
 ·
  rw [if_pos hb1] at h0
  refine CodT.yes' (b := a2 == 0) (by kernel_rfl) hb1 ?_
  refine cQ ?_
  refine cR [0] (by kernel_rfl) ?_
  refine oP (r := []) [0] (S' := [(6, .string (⟨#[99, 101, 110, 111, 116, 97, 112, 104]⟩ : ByteArray))]) (by kernel_rfl) ?_
  refine oD ?_
  refine qT ?_
  refine CodT.ret ?_
  refine Qn.ret_then ?_
  have e := someS h0
  subst e
  refine qK [6] (S' := [(6, .string (⟨#[99, 101, 110, 111, 116, 97, 112, 104]⟩ : ByteArray))]) (by kernel_rfl) ?_
  exact post_ret (v := .string (⟨#[99, 101, 110, 111, 116, 97, 112, 104]⟩ : ByteArray)) (fun a ha => RunRes.run (vs := [.string (⟨#[99, 101, 110, 111, 116, 97, 112, 104]⟩ : ByteArray)]) (.tmp (t := 6) (by kernel_rfl) .nil) ha (by kernel_rfl)) ⟨rfl, hI⟩
 ·
  rw [if_neg hb1] at h0
  refine CodT.no' (b := a2 == 0) (by kernel_rfl) (by simpa using hb1) ?_
  refine CodT.skip ?_
  refine qT ?_
  refine cQ ?_
  refine cR [0, 1, 2, 3, 4, 5, 6, 7, 8, 9, 10] (by kernel_rfl) ?_
  refine oP (r := [3, 4, 5, 6, 7, 8, 9, 10]) [0, 1, 2] (S' := [(0, .slice A_a0 a0.length c_a0), (2, iv a2), (12, .slice A_a1 a1.length c_a1), (14, iv (wi64 (a2 - 1)))]) (by kernel_rfl) ?_
  obtain ⟨hg2, h0⟩ := guardS h0
  obtain ⟨g3, o7, hA4, hr5, hl6⟩ := RdS.get hr_a1 hg2.1 hg2.2
  refine oC (Does.yi (Yl.indexSlice (d := 15) (T := 22) (cc := c_a1) (k := .i64) (j := wi64 (a2 - 1)) (g := g3) (o := o7) (by kernel_rfl) Go.Proofs.Try.underlying22 ty42 hA4 hg2.1 hg2.2) hI ?_)
  refine oC (Does.yi (Yl.load (d := 16) (T := 42) (v := .agg (c_ApiEvent (gt a1 (wi64 (a2 - 1)))).toArray) (by kernel_rfl) (ldRN ty42 (cs := c_ApiEvent (gt a1 (wi64 (a2 - 1)))) 0 (fun w hC => hr5 w0 w _ hC) hl6 (whole _ _ hl6))) hI ?_)
  obtain ⟨⟨y9, y10⟩, hc8, h0⟩ := bindS h0
  try dsimp only at h0
  refine oC (Does.call (d := some 17) (n := 39) (vs := [.agg (c_ApiEvent (gt a1 (wi64 (a2 - 1)))).toArray]) (by kernel_rfl) en39 (c39 w0 w _ _ hI (gt a1 (wi64 (a2 - 1))) (inv_ApiEvent _ hl6) _ hc8) ?_)
  rintro e w ⟨rfl, hI⟩
  refine ⟨_, rfl, ?_⟩
  refine oP (r := []) [6, 7, 8, 9, 10] (S' := [(0, .slice A_a0 a0.length c_a0), (2, iv a2), (7, .string y9)]) (by kernel_rfl) ?_
  refine oD ?_
  refine qT ?_
  refine cQ ?_
  refine cR [0, 1, 2, 3, 4, 5, 6, 7, 8] (by kernel_rfl) ?_
  refine oP (r := [3, 4, 5, 6, 7, 8]) [0, 1, 2] (S' := [(7, .string y9), (20, .slice A_a0 a0.length c_a0), (22, iv (wi64 (a2 - 1)))]) (by kernel_rfl) ?_
  obtain ⟨hg11, h0⟩ := guardS h0
  obtain ⟨g12, o16, hA13, hr14, hl15⟩ := RdS.get hr_a0 hg11.1 hg11.2
  refine oC (Does.yi (Yl.indexSlice (d := 23) (T := 32) (cc := c_a0) (k := .i64) (j := wi64 (a2 - 1)) (g := g12) (o := o16) (by kernel_rfl) Go.Proofs.Try.underlying32 ty29 hA13 hg11.1 hg11.2) hI ?_)
  refine oC (Does.yi (Yl.load (d := 24) (T := 29) (v := .agg (cA (Value.int .u8) (gt a0 (wi64 (a2 - 1)))).toArray) (by kernel_rfl) (ldRN ty29 (cs := cA (Value.int .u8) (gt a0 (wi64 (a2 - 1)))) 0 (fun w hC => hr14 w0 w _ hC) ((cA_length _ _).trans ((cA_length _ _).symm.trans hl15)) (whole _ _ ((cA_length _ _).trans ((cA_length _ _).symm.trans hl15))))) hI ?_)
  obtain ⟨y18, hc17, h0⟩ := bindS h0
  try dsimp only at h0
  refine oC (Does.call (d := some 25) (n := 40) (vs := [.agg (cA (Value.int .u8) (gt a0 (wi64 (a2 - 1)))).toArray]) (by kernel_rfl) en40 (c40 w0 w _ _ hI (gt a0 (wi64 (a2 - 1))) ((cA_length _ _).symm.trans hl15) _ hc17) ?_)
  rintro e w ⟨rfl, hI⟩
  refine ⟨_, rfl, ?_⟩
  refine oP (r := [7, 8]) [6] (S' := [(25, .string y18), (26, .string y9)]) (by kernel_rfl) ?_
  obtain ⟨hg19, h0⟩ := guardS h0
  refine oC (Does.yi (Yl.cat (d := 27) (T := 9) (x := y18) (y := y9) (by kernel_rfl) hg19) hI ?_)
  refine oP (r := []) [8] (S' := [(6, .string (y18 ++ y9))]) (by kernel_rfl) ?_
  refine oD ?_
  refine qT ?_
  refine CodT.ret ?_
  have e := someS h0
  subst e
  refine qK [6] (S' := [(6, .string (y18 ++ y9))]) (by kernel_rfl) ?_
  exact post_ret (v := .string (y18 ++ y9)) (fun a ha => RunRes.run (vs := [.string (y18 ++ y9)]) (.tmp (t := 6) (by kernel_rfl) .nil) ha (by kernel_rfl)) ⟨rfl, hI⟩
end Go.Cen
