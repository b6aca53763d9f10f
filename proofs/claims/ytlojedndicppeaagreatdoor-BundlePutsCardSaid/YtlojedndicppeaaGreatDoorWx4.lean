/- That the machine computes these: walks, printed by a program of ours. -/
import Derived.Test.YtlojedndicppeaaGreatDoorPx
import Derived.Test.YtlojedndicppeaaGreatDoorWx3
set_option linter.unusedVariables false
set_option linter.unusedSimpArgs false
namespace Go.Cen
set_option maxRecDepth 100000
set_option maxHeartbeats 4000000
/-- cenotaph/cenotaphref03.Rune -/
theorem c77 (w0 w : World) (Z : Hp) (A : HP) (hI : Inv w0 Z w A) (hT : Tabs Z) (a0 : ByteArray) (r : (Int × Int)) (h0 : ref03_Rune a0 = some r) :
  Calls prog 77 #[.string a0] w (fun e w' => e = .returned (.tuple #[iv r.1, iv r.2]) ∧ Inv w0 Z w' A) := by
 have e4 := calls_intro (R := (fun e w' => e = .returned (.tuple #[iv r.1, iv r.2]) ∧ Inv w0 Z w' A)) (w := w) (args := [.string a0]) (fn := Go.Proofs.Tryz.f77) 85 Go.Proofs.Tryz.func77 (by rfl) Go.Proofs.Tryz.ntmps77 (by kernel_rfl)
 refine e4 ?_
 clear e4
 unfold ref03_Rune at h0
 refine cQ (cR [0, 1] ?_)
 refine oP (r := []) [0, 1] (S' := [(0, .string a0)]) ?_
 refine oD (qT (cQ (cR [0, 1, 2, 3] ?_)))
 refine oP (r := [1, 2, 3]) [0] (S' := [(0, .string a0), (10, .string a0)]) ?_
 obtain ⟨hg1, h0⟩ := guardS h0
 refine oC (jY (Yl.indexStr (d := 11) (T := 9) (k := .i64) (j := 0) (s := a0) (by kernel_rfl) Go.Proofs.Tryz.underlying9 hg1.1 hg1.2) hI ?_)
 refine oP (r := []) [2, 3] (S' := [(0, .string a0), (4, iv (wi64 (bt a0 0)))]) ?_
 refine oD (qT (cQ (cQ (cR [0, 1] ?_))))
 refine oP (r := []) [0, 1] (S' := [(0, .string a0), (4, iv (wi64 (bt a0 0))), (14, .bool (decide ((wi64 (bt a0 0)) < 128)))]) ?_
 refine oD (qT ?_)
 by_cases hb2 : (decide ((wi64 (bt a0 0)) < 128)) = true
 ·
  rw [if_pos hb2] at h0
  refine cY (b := decide ((wi64 (bt a0 0)) < 128)) hb2 ?_
  refine cQ (cR [0, 1, 2] ?_)
  refine oP (r := []) [0, 1, 2] (S' := [(2, iv (wi64 (bt a0 0))), (3, iv 1)]) ?_
  refine oD (qT (jE (jR ?_)))
  have e := someS h0
  subst e
  refine qK [2, 3] (S' := [(2, iv (wi64 (bt a0 0))), (3, iv 1)]) ?_
  exact post_ret (v := .tuple #[iv (wi64 (bt a0 0)), iv 1]) (fun a ha => jU (vs := [iv (wi64 (bt a0 0)), iv 1]) (.tmp (t := 2) (by kernel_rfl) (.tmp (t := 3) (by kernel_rfl) .nil)) ha (by kernel_rfl)) ⟨rfl, hI⟩
 ·
  rw [if_neg hb2] at h0
  refine cN (b := decide ((wi64 (bt a0 0)) < 128)) (by simpa using hb2) ?_
  refine jS (qT (cQ (cR [0] ?_)))
  refine oP (r := []) [0] (S' := [(0, .string a0), (4, iv (wi64 (bt a0 0))), (5, iv 0)]) ?_
  refine oD (qT (cQ (cR [0] ?_)))
  refine oP (r := []) [0] (S' := [(0, .string a0), (4, iv (wi64 (bt a0 0))), (5, iv 0), (6, iv 0)]) ?_
  refine oD (qT (cQ (cR [0] ?_)))
  refine oP (r := []) [0] (S' := [(0, .string a0), (4, iv (wi64 (bt a0 0))), (5, iv 0), (6, iv 0), (7, iv 0)]) ?_
  refine oD (qT ?_)
  obtain ⟨r1, h1, h0⟩ := bindS h0
  refine jM (fun a w => ∃ (x3 : Int) (x4 : Int) (x5 : Int), (x3, x4, x5) = r1 ∧ Fr 85 [(0, .string a0), (5, iv x3), (6, iv x4), (7, iv x5)] a ∧ Inv w0 Z w A) ?_ ?_
  ·
   obtain ⟨r2, h2, h1⟩ := bindS h1
   refine jM (fun a w => ∃ (x6 : Bool), x6 = r2 ∧ Fr 85 [(0, .string a0), (4, iv (wi64 (bt a0 0))), (5, iv 0), (6, iv 0), (7, iv 0), (21, .bool x6)] a ∧ Inv w0 Z w A) ?_ ?_
   ·
    refine cR [0, 1, 2, 3, 4, 5] ?_
    refine oP (r := [3, 4, 5]) [0, 1, 2] (S' := [(0, .string a0), (4, iv (wi64 (bt a0 0))), (5, iv 0), (6, iv 0), (7, iv 0), (18, .bool (decide ((wi64 (bt a0 0)) ≥ 194)))]) ?_
    by_cases hb7 : (decide ((wi64 (bt a0 0)) ≥ 194)) = true
    ·
     rw [if_pos hb7] at h2
     refine OpsT.keep [0, 4, 5, 6, 7, 18] (S' := [(0, .string a0), (4, iv (wi64 (bt a0 0))), (5, iv 0), (6, iv 0), (7, iv 0), (18, .bool true)]) (by (try simp only [hb7]); kernel_rfl) ?_
     refine oP (r := []) [3, 4, 5] (S' := [(0, .string a0), (4, iv (wi64 (bt a0 0))), (5, iv 0), (6, iv 0), (7, iv 0), (21, .bool (decide ((wi64 (bt a0 0)) < 224)))]) ?_
     refine oD ?_
     have e := someS h2
     subst e
     exact jT fun a ha => ⟨decide ((wi64 (bt a0 0)) < 224), rfl, ha.keep [0, 4, 5, 6, 7, 21] (by kernel_rfl), hI⟩
    ·
     rw [if_neg hb7] at h2
     have hb7 : (decide ((wi64 (bt a0 0)) ≥ 194)) = false := by simpa using hb7
     refine OpsT.keep [0, 4, 5, 6, 7, 18] (S' := [(0, .string a0), (4, iv (wi64 (bt a0 0))), (5, iv 0), (6, iv 0), (7, iv 0), (18, .bool false)]) (by (try simp only [hb7]); kernel_rfl) ?_
     refine oP (r := []) [3, 4, 5] (S' := [(0, .string a0), (4, iv (wi64 (bt a0 0))), (5, iv 0), (6, iv 0), (7, iv 0), (21, .bool false)]) ?_
     refine oD ?_
     have e := someS h2
     subst e
     exact jT fun a ha => ⟨false, rfl, ha.keep [0, 4, 5, 6, 7, 21] (by kernel_rfl), hI⟩
   ·
    rintro a w ⟨x6, rfl, ha, hI⟩
    try dsimp only at h1
    refine CodT.of ?_ ha
    by_cases hb8 : x6 = true
    ·
     rw [if_pos hb8] at h1
     refine cY (b := x6) hb8 ?_
     refine cQ (cR [0] ?_)
     refine oP (r := []) [0] (S' := [(0, .string a0), (4, iv (wi64 (bt a0 0))), (5, iv 2)]) ?_
     refine oD (qT (cQ (cR [0] ?_)))
     refine oP (r := []) [0] (S' := [(0, .string a0), (4, iv (wi64 (bt a0 0))), (5, iv 2), (6, iv 128)]) ?_
     refine oD (qT (cR [0, 1, 2] ?_))
     refine oP (r := []) [0, 1, 2] (S' := [(0, .string a0), (5, iv 2), (6, iv 128), (7, iv (wi64 ((wi64 (bt a0 0)) - 192)))]) ?_
     refine oD ?_
     have e := someS h1
     subst e
     exact jT fun a ha => ⟨2, 128, wi64 ((wi64 (bt a0 0)) - 192), rfl, ha.keep [0, 5, 6, 7] (by kernel_rfl), hI⟩
    ·
     rw [if_neg hb8] at h1
     refine cN (b := x6) (by simpa using hb8) ?_
     obtain ⟨r2, h2, h1⟩ := bindS h1
     refine jM (fun a w => ∃ (x9 : Bool), x9 = r2 ∧ Fr 85 [(0, .string a0), (4, iv (wi64 (bt a0 0))), (5, iv 0), (6, iv 0), (7, iv 0), (29, .bool x9)] a ∧ Inv w0 Z w A) ?_ ?_
     ·
      refine cR [0, 1, 2, 3, 4, 5] ?_
      refine oP (r := [3, 4, 5]) [0, 1, 2] (S' := [(0, .string a0), (4, iv (wi64 (bt a0 0))), (5, iv 0), (6, iv 0), (7, iv 0), (26, .bool (decide ((wi64 (bt a0 0)) ≥ 224)))]) ?_
      by_cases hb10 : (decide ((wi64 (bt a0 0)) ≥ 224)) = true
      ·
       rw [if_pos hb10] at h2
       refine OpsT.keep [0, 4, 5, 6, 7, 26] (S' := [(0, .string a0), (4, iv (wi64 (bt a0 0))), (5, iv 0), (6, iv 0), (7, iv 0), (26, .bool true)]) (by (try simp only [hb10]); kernel_rfl) ?_
       refine oP (r := []) [3, 4, 5] (S' := [(0, .string a0), (4, iv (wi64 (bt a0 0))), (5, iv 0), (6, iv 0), (7, iv 0), (29, .bool (decide ((wi64 (bt a0 0)) < 240)))]) ?_
       refine oD ?_
       have e := someS h2
       subst e
       exact jT fun a ha => ⟨decide ((wi64 (bt a0 0)) < 240), rfl, ha.keep [0, 4, 5, 6, 7, 29] (by kernel_rfl), hI⟩
      ·
       rw [if_neg hb10] at h2
       have hb10 : (decide ((wi64 (bt a0 0)) ≥ 224)) = false := by simpa using hb10
       refine OpsT.keep [0, 4, 5, 6, 7, 26] (S' := [(0, .string a0), (4, iv (wi64 (bt a0 0))), (5, iv 0), (6, iv 0), (7, iv 0), (26, .bool false)]) (by (try simp only [hb10]); kernel_rfl) ?_
       refine oP (r := []) [3, 4, 5] (S' := [(0, .string a0), (4, iv (wi64 (bt a0 0))), (5, iv 0), (6, iv 0), (7, iv 0), (29, .bool false)]) ?_
       refine oD ?_
       have e := someS h2
       subst e
       exact jT fun a ha => ⟨false, rfl, ha.keep [0, 4, 5, 6, 7, 29] (by kernel_rfl), hI⟩
     ·
      rintro a w ⟨x9, rfl, ha, hI⟩
      try dsimp only at h1
      refine CodT.of ?_ ha
      by_cases hb11 : x9 = true
      ·
       rw [if_pos hb11] at h1
       refine cY (b := x9) hb11 ?_
       refine cQ (cR [0] ?_)
       refine oP (r := []) [0] (S' := [(0, .string a0), (4, iv (wi64 (bt a0 0))), (5, iv 3)]) ?_
       refine oD (qT (cQ (cR [0] ?_)))
       refine oP (r := []) [0] (S' := [(0, .string a0), (4, iv (wi64 (bt a0 0))), (5, iv 3), (6, iv 2048)]) ?_
       refine oD (qT (cR [0, 1, 2] ?_))
       refine oP (r := []) [0, 1, 2] (S' := [(0, .string a0), (5, iv 3), (6, iv 2048), (7, iv (wi64 ((wi64 (bt a0 0)) - 224)))]) ?_
       refine oD ?_
       have e := someS h1
       subst e
       exact jT fun a ha => ⟨3, 2048, wi64 ((wi64 (bt a0 0)) - 224), rfl, ha.keep [0, 5, 6, 7] (by kernel_rfl), hI⟩
      ·
       rw [if_neg hb11] at h1
       refine cN (b := x9) (by simpa using hb11) ?_
       obtain ⟨r2, h2, h1⟩ := bindS h1
       refine jM (fun a w => ∃ (x12 : Bool), x12 = r2 ∧ Fr 85 [(0, .string a0), (4, iv (wi64 (bt a0 0))), (5, iv 0), (6, iv 0), (7, iv 0), (37, .bool x12)] a ∧ Inv w0 Z w A) ?_ ?_
       ·
        refine cR [0, 1, 2, 3, 4, 5] ?_
        refine oP (r := [3, 4, 5]) [0, 1, 2] (S' := [(0, .string a0), (4, iv (wi64 (bt a0 0))), (5, iv 0), (6, iv 0), (7, iv 0), (34, .bool (decide ((wi64 (bt a0 0)) ≥ 240)))]) ?_
        by_cases hb13 : (decide ((wi64 (bt a0 0)) ≥ 240)) = true
        ·
         rw [if_pos hb13] at h2
         refine OpsT.keep [0, 4, 5, 6, 7, 34] (S' := [(0, .string a0), (4, iv (wi64 (bt a0 0))), (5, iv 0), (6, iv 0), (7, iv 0), (34, .bool true)]) (by (try simp only [hb13]); kernel_rfl) ?_
         refine oP (r := []) [3, 4, 5] (S' := [(0, .string a0), (4, iv (wi64 (bt a0 0))), (5, iv 0), (6, iv 0), (7, iv 0), (37, .bool (decide ((wi64 (bt a0 0)) < 245)))]) ?_
         refine oD ?_
         have e := someS h2
         subst e
         exact jT fun a ha => ⟨decide ((wi64 (bt a0 0)) < 245), rfl, ha.keep [0, 4, 5, 6, 7, 37] (by kernel_rfl), hI⟩
        ·
         rw [if_neg hb13] at h2
         have hb13 : (decide ((wi64 (bt a0 0)) ≥ 240)) = false := by simpa using hb13
         refine OpsT.keep [0, 4, 5, 6, 7, 34] (S' := [(0, .string a0), (4, iv (wi64 (bt a0 0))), (5, iv 0), (6, iv 0), (7, iv 0), (34, .bool false)]) (by (try simp only [hb13]); kernel_rfl) ?_
         refine oP (r := []) [3, 4, 5] (S' := [(0, .string a0), (4, iv (wi64 (bt a0 0))), (5, iv 0), (6, iv 0), (7, iv 0), (37, .bool false)]) ?_
         refine oD ?_
         have e := someS h2
         subst e
         exact jT fun a ha => ⟨false, rfl, ha.keep [0, 4, 5, 6, 7, 37] (by kernel_rfl), hI⟩
       ·
        rintro a w ⟨x12, rfl, ha, hI⟩
        try dsimp only at h1
        refine CodT.of ?_ ha
        by_cases hb14 : x12 = true
        ·
         rw [if_pos hb14] at h1
         refine cY (b := x12) hb14 ?_
         refine cQ (cR [0] ?_)
         refine oP (r := []) [0] (S' := [(0, .string a0), (4, iv (wi64 (bt a0 0))), (5, iv 4)]) ?_
         refine oD (qT (cQ (cR [0] ?_)))
         refine oP (r := []) [0] (S' := [(0, .string a0), (4, iv (wi64 (bt a0 0))), (5, iv 4), (6, iv 65536)]) ?_
         refine oD (qT (cR [0, 1, 2] ?_))
         refine oP (r := []) [0, 1, 2] (S' := [(0, .string a0), (5, iv 4), (6, iv 65536), (7, iv (wi64 ((wi64 (bt a0 0)) - 240)))]) ?_
         refine oD ?_
         have e := someS h1
         subst e
         exact jT fun a ha => ⟨4, 65536, wi64 ((wi64 (bt a0 0)) - 240), rfl, ha.keep [0, 5, 6, 7] (by kernel_rfl), hI⟩
        ·
         rw [if_neg hb14] at h1
         refine cN (b := x12) (by simpa using hb14) ?_
         refine jS ?_
         have e := someS h1
         subst e
         exact jT fun a ha => ⟨0, 0, 0, rfl, ha.keep [0, 5, 6, 7] (by kernel_rfl), hI⟩
  ·
   rintro a w ⟨x3, x4, x5, rfl, ha, hI⟩
   try dsimp only at h0
   refine CodT.of ?_ ha
   refine cQ ?_
   obtain ⟨r1, h1, h0⟩ := bindS h0
   refine jM (fun a w => ∃ (x15 : Bool), x15 = r1 ∧ Fr 85 [(0, .string a0), (5, iv x3), (6, iv x4), (7, iv x5), (47, .bool x15)] a ∧ Inv w0 Z w A) ?_ ?_
   ·
    refine cR [0, 1, 2, 3, 4, 5, 6, 7] ?_
    refine oP (r := [3, 4, 5, 6, 7]) [0, 1, 2] (S' := [(0, .string a0), (5, iv x3), (6, iv x4), (7, iv x5), (42, .bool (x3 == 0))]) ?_
    by_cases hb16 : (x3 == 0) = true
    ·
     rw [if_pos hb16] at h1
     refine OpsT.keep [0, 5, 6, 7, 42] (S' := [(0, .string a0), (5, iv x3), (6, iv x4), (7, iv x5), (42, .bool true)]) (by (try simp only [hb16]); kernel_rfl) ?_
     refine oP (r := []) [3, 4, 5, 6, 7] (S' := [(0, .string a0), (5, iv x3), (6, iv x4), (7, iv x5), (47, .bool true)]) ?_
     refine oD ?_
     have e := someS h1
     subst e
     exact jT fun a ha => ⟨true, rfl, ha.keep [0, 5, 6, 7, 47] (by kernel_rfl), hI⟩
    ·
     rw [if_neg hb16] at h1
     have hb16 : (x3 == 0) = false := by simpa using hb16
     refine OpsT.keep [0, 5, 6, 7, 42] (S' := [(0, .string a0), (5, iv x3), (6, iv x4), (7, iv x5), (42, .bool false)]) (by (try simp only [hb16]); kernel_rfl) ?_
     refine oP (r := []) [3, 4, 5, 6, 7] (S' := [(0, .string a0), (5, iv x3), (6, iv x4), (7, iv x5), (47, .bool (decide ((a0.size : Int) < x3)))]) ?_
     refine oD ?_
     have e := someS h1
     subst e
     exact jT fun a ha => ⟨decide ((a0.size : Int) < x3), rfl, ha.keep [0, 5, 6, 7, 47] (by kernel_rfl), hI⟩
   ·
    rintro a w ⟨x15, rfl, ha, hI⟩
    try dsimp only at h0
    refine CodT.of ?_ ha
    by_cases hb17 : x15 = true
    ·
     rw [if_pos hb17] at h0
     refine cY (b := x15) hb17 ?_
     refine cQ (cR [0, 1] ?_)
     refine oP (r := []) [0, 1] (S' := [(2, iv (-1)), (3, iv 1)]) ?_
     refine oD (qT (jE (jR ?_)))
     have e := someS h0
     subst e
     refine qK [2, 3] (S' := [(2, iv (-1)), (3, iv 1)]) ?_
     exact post_ret (v := .tuple #[iv (-1), iv 1]) (fun a ha => jU (vs := [iv (-1), iv 1]) (.tmp (t := 2) (by kernel_rfl) (.tmp (t := 3) (by kernel_rfl) .nil)) ha (by kernel_rfl)) ⟨rfl, hI⟩
    ·
     rw [if_neg hb17] at h0
     refine cN (b := x15) (by simpa using hb17) ?_
     refine jS (qT (cQ (cQ (cR [0] ?_))))
     refine oP (r := []) [0] (S' := [(0, .string a0), (5, iv x3), (6, iv x4), (7, iv x5), (8, iv 1)]) ?_
     refine oD (qT ?_)
     obtain ⟨r1, h1, h0⟩ := bindS h0
     refine CodT.meet1 (fun a w => ∃ (x18 : Int), .inr x18 = r1 ∧ Fr 85 [(5, iv x3), (6, iv x4), (7, iv x18)] a ∧ Inv w0 Z w A) ?_ ?_
     ·
      refine jB ?_
      refine (fun a ha => wp_loopN (fun k a w => ∃ (x19 : Int) (x20 : Int), ref03_Rune.l0 x3 a0 k x19 x20 = some r1 ∧ Fr 85 [(0, .string a0), (5, iv x3), (6, iv x4), (7, iv x19), (8, iv x20)] a ∧ Inv w0 Z w A) ?_ FU a w ⟨x5, 1, h1, ha.keep [0, 5, 6, 7, 8] (by kernel_rfl), hI⟩)
      clear h1 hI
      rintro k a w ⟨x19, x20, h1, ha, hI⟩
      rcases k with _ | k
      ·
       cases h1
      simp only [ref03_Rune.l0] at h1
      refine CodT.of ?_ ha
      refine cQ (cQ (cR [0, 1, 2] ?_))
      refine oP (r := []) [0, 1, 2] (S' := [(0, .string a0), (5, iv x3), (6, iv x4), (7, iv x19), (8, iv x20), (50, .bool (decide (x20 < x3)))]) ?_
      refine oD (qT ?_)
      by_cases hb21 : (decide (x20 < x3)) = true
      ·
       rw [if_pos hb21] at h1
       refine cY (b := decide (x20 < x3)) hb21 ?_
       refine jS (qT (cQ (jB (cQ (cR [0, 1, 2, 3, 4] ?_)))))
       refine oP (r := [2, 3, 4]) [0, 1] (S' := [(0, .string a0), (5, iv x3), (6, iv x4), (7, iv x19), (8, iv x20), (53, .string a0), (54, iv x20)]) ?_
       obtain ⟨hg22, h1⟩ := guardS h1
       refine oC (jY (Yl.indexStr (d := 55) (T := 9) (k := .i64) (j := x20) (s := a0) (by kernel_rfl) Go.Proofs.Tryz.underlying9 hg22.1 hg22.2) hI ?_)
       refine oP (r := []) [3, 4] (S' := [(0, .string a0), (5, iv x3), (6, iv x4), (7, iv x19), (8, iv x20), (9, iv (wi64 (bt a0 x20)))]) ?_
       refine oD (qT (cQ ?_))
       obtain ⟨r2, h2, h1⟩ := bindS h1
       refine jM (fun a w => ∃ (x23 : Bool), x23 = r2 ∧ Fr 85 [(0, .string a0), (5, iv x3), (6, iv x4), (7, iv x19), (8, iv x20), (9, iv (wi64 (bt a0 x20))), (62, .bool x23)] a ∧ Inv w0 Z w A) ?_ ?_
       ·
        refine cR [0, 1, 2, 3, 4, 5] ?_
        refine oP (r := [3, 4, 5]) [0, 1, 2] (S' := [(0, .string a0), (5, iv x3), (6, iv x4), (7, iv x19), (8, iv x20), (9, iv (wi64 (bt a0 x20))), (59, .bool (decide ((wi64 (bt a0 x20)) < 128)))]) ?_
        by_cases hb24 : (decide ((wi64 (bt a0 x20)) < 128)) = true
        ·
         rw [if_pos hb24] at h2
         refine OpsT.keep [0, 5, 6, 7, 8, 9, 59] (S' := [(0, .string a0), (5, iv x3), (6, iv x4), (7, iv x19), (8, iv x20), (9, iv (wi64 (bt a0 x20))), (59, .bool true)]) (by (try simp only [hb24]); kernel_rfl) ?_
         refine oP (r := []) [3, 4, 5] (S' := [(0, .string a0), (5, iv x3), (6, iv x4), (7, iv x19), (8, iv x20), (9, iv (wi64 (bt a0 x20))), (62, .bool true)]) ?_
         refine oD ?_
         have e := someS h2
         subst e
         exact jT fun a ha => ⟨true, rfl, ha.keep [0, 5, 6, 7, 8, 9, 62] (by kernel_rfl), hI⟩
        ·
         rw [if_neg hb24] at h2
         have hb24 : (decide ((wi64 (bt a0 x20)) < 128)) = false := by simpa using hb24
         refine OpsT.keep [0, 5, 6, 7, 8, 9, 59] (S' := [(0, .string a0), (5, iv x3), (6, iv x4), (7, iv x19), (8, iv x20), (9, iv (wi64 (bt a0 x20))), (59, .bool false)]) (by (try simp only [hb24]); kernel_rfl) ?_
         refine oP (r := []) [3, 4, 5] (S' := [(0, .string a0), (5, iv x3), (6, iv x4), (7, iv x19), (8, iv x20), (9, iv (wi64 (bt a0 x20))), (62, .bool (decide ((wi64 (bt a0 x20)) > 191)))]) ?_
         refine oD ?_
         have e := someS h2
         subst e
         exact jT fun a ha => ⟨decide ((wi64 (bt a0 x20)) > 191), rfl, ha.keep [0, 5, 6, 7, 8, 9, 62] (by kernel_rfl), hI⟩
       ·
        rintro a w ⟨x23, rfl, ha, hI⟩
        try dsimp only at h1
        refine CodT.of ?_ ha
        by_cases hb25 : x23 = true
        ·
         rw [if_pos hb25] at h1
         refine cY (b := x23) hb25 ?_
         refine cQ (cR [0, 1] ?_)
         refine oP (r := []) [0, 1] (S' := [(2, iv (-1)), (3, iv 1)]) ?_
         refine oD (qT (jE (jR (jQ (jR (jR (jQ (jR (jR ?_)))))))))
         have e := someS h1
         subst e
         try dsimp only at h0
         have e := someS h0
         subst e
         refine qK [2, 3] (S' := [(2, iv (-1)), (3, iv 1)]) ?_
         exact post_ret (v := .tuple #[iv (-1), iv 1]) (fun a ha => jU (vs := [iv (-1), iv 1]) (.tmp (t := 2) (by kernel_rfl) (.tmp (t := 3) (by kernel_rfl) .nil)) ha (by kernel_rfl)) ⟨rfl, hI⟩
        ·
         rw [if_neg hb25] at h1
         refine cN (b := x23) (by simpa using hb25) ?_
         refine jS (qT (cR [0, 1, 2, 3, 4, 5] ?_))
         refine oP (r := []) [0, 1, 2, 3, 4, 5] (S' := [(0, .string a0), (5, iv x3), (6, iv x4), (7, iv (wi64 ((wi64 ((wi64 (x19 * 64)) + (wi64 (bt a0 x20)))) - 128))), (8, iv x20)]) ?_
         refine oD (jN (qT (cR [0, 1, 2] ?_)))
         refine oP (r := []) [0, 1, 2] (S' := [(0, .string a0), (5, iv x3), (6, iv x4), (7, iv (wi64 ((wi64 ((wi64 (x19 * 64)) + (wi64 (bt a0 x20)))) - 128))), (8, iv (wi64 (x20 + 1)))]) ?_
         refine oD ?_
         exact jT fun a ha => ⟨k, Nat.lt_succ_self k, wi64 ((wi64 ((wi64 (x19 * 64)) + (wi64 (bt a0 x20)))) - 128), wi64 (x20 + 1), h1, ha.keep [0, 5, 6, 7, 8] (by kernel_rfl), hI⟩
      ·
       rw [if_neg hb21] at h1
       refine cN (b := decide (x20 < x3)) (by simpa using hb21) ?_
       refine jZ ?_
       refine jX (jX ?_)
       refine Qn.block ?_
       have e := someS h1
       subst e
       exact jT fun a ha => ⟨x19, rfl, ha.keep [5, 6, 7] (by kernel_rfl), hI⟩
     ·
      rintro a w ⟨x18, rfl, ha, hI⟩
      try dsimp only at h0
      refine Qn.of ?_ ha
      refine qT (cQ ?_)
      obtain ⟨r1, h1, h0⟩ := bindS h0
      refine jM (fun a w => ∃ (x26 : Bool), x26 = r1 ∧ Fr 85 [(5, iv x3), (7, iv x18), (82, .bool x26)] a ∧ Inv w0 Z w A) ?_ ?_
      ·
       refine cR [0, 1, 2, 3, 4, 5, 6, 7, 8, 9, 10, 11, 12, 13, 14] ?_
       refine oP (r := [4, 5, 6, 7, 8, 9, 10, 11, 12, 13, 14]) [0, 1, 2, 3] (S' := [(5, iv x3), (7, iv x18), (71, .bool (decide (x18 < x4)))]) ?_
       by_cases hb27 : (decide (x18 < x4)) = true
       ·
        rw [if_pos hb27] at h1
        refine OpsT.keep [5, 7, 71] (S' := [(5, iv x3), (7, iv x18), (71, .bool true)]) (by (try simp only [hb27]); kernel_rfl) ?_
        refine oP (r := []) [4, 5, 6, 7, 8, 9, 10, 11, 12, 13, 14] (S' := [(5, iv x3), (7, iv x18), (82, .bool true)]) ?_
        refine oD ?_
        have e := someS h1
        subst e
        exact jT fun a ha => ⟨true, rfl, ha.keep [5, 7, 82] (by kernel_rfl), hI⟩
       ·
        rw [if_neg hb27] at h1
        have hb27 : (decide (x18 < x4)) = false := by simpa using hb27
        refine OpsT.keep [5, 7, 71] (S' := [(5, iv x3), (7, iv x18), (71, .bool false)]) (by (try simp only [hb27]); kernel_rfl) ?_
        refine oP (r := [8, 9, 10, 11, 12, 13, 14]) [4, 5, 6, 7] (S' := [(5, iv x3), (7, iv x18), (75, .bool (decide (x18 > 1114111)))]) ?_
        by_cases hb28 : (decide (x18 > 1114111)) = true
        ·
         rw [if_pos hb28] at h1
         refine OpsT.keep [5, 7, 75] (S' := [(5, iv x3), (7, iv x18), (75, .bool true)]) (by (try simp only [hb28]); kernel_rfl) ?_
         refine oP (r := []) [8, 9, 10, 11, 12, 13, 14] (S' := [(5, iv x3), (7, iv x18), (82, .bool true)]) ?_
         refine oD ?_
         have e := someS h1
         subst e
         exact jT fun a ha => ⟨true, rfl, ha.keep [5, 7, 82] (by kernel_rfl), hI⟩
        ·
         rw [if_neg hb28] at h1
         have hb28 : (decide (x18 > 1114111)) = false := by simpa using hb28
         refine OpsT.keep [5, 7, 75] (S' := [(5, iv x3), (7, iv x18), (75, .bool false)]) (by (try simp only [hb28]); kernel_rfl) ?_
         refine oP (r := [11, 12, 13, 14]) [8, 9, 10] (S' := [(5, iv x3), (7, iv x18), (75, .bool false), (78, .bool (decide (x18 ≥ 55296)))]) ?_
         by_cases hb29 : (decide (x18 ≥ 55296)) = true
         ·
          rw [if_pos hb29] at h1
          refine OpsT.keep [5, 7, 75, 78] (S' := [(5, iv x3), (7, iv x18), (75, .bool false), (78, .bool true)]) (by (try simp only [hb29]); kernel_rfl) ?_
          refine oP (r := []) [11, 12, 13, 14] (S' := [(5, iv x3), (7, iv x18), (82, .bool (decide (x18 ≤ 57343)))]) ?_
          refine oD ?_
          have e := someS h1
          subst e
          exact jT fun a ha => ⟨decide (x18 ≤ 57343), rfl, ha.keep [5, 7, 82] (by kernel_rfl), hI⟩
         ·
          rw [if_neg hb29] at h1
          have hb29 : (decide (x18 ≥ 55296)) = false := by simpa using hb29
          refine OpsT.keep [5, 7, 75, 78] (S' := [(5, iv x3), (7, iv x18), (75, .bool false), (78, .bool false)]) (by (try simp only [hb29]); kernel_rfl) ?_
          refine oP (r := []) [11, 12, 13, 14] (S' := [(5, iv x3), (7, iv x18), (82, .bool false)]) ?_
          refine oD ?_
          have e := someS h1
          subst e
          exact jT fun a ha => ⟨false, rfl, ha.keep [5, 7, 82] (by kernel_rfl), hI⟩
      ·
       rintro a w ⟨x26, rfl, ha, hI⟩
       try dsimp only at h0
       refine CodT.of ?_ ha
       by_cases hb30 : x26 = true
       ·
        rw [if_pos hb30] at h0
        refine cY (b := x26) hb30 ?_
        refine cQ (cR [0, 1] ?_)
        refine oP (r := []) [0, 1] (S' := [(2, iv (-1)), (3, iv 1)]) ?_
        refine oD (qT (jE (jR ?_)))
        have e := someS h0
        subst e
        refine qK [2, 3] (S' := [(2, iv (-1)), (3, iv 1)]) ?_
        exact post_ret (v := .tuple #[iv (-1), iv 1]) (fun a ha => jU (vs := [iv (-1), iv 1]) (.tmp (t := 2) (by kernel_rfl) (.tmp (t := 3) (by kernel_rfl) .nil)) ha (by kernel_rfl)) ⟨rfl, hI⟩
       ·
        rw [if_neg hb30] at h0
        refine cN (b := x26) (by simpa using hb30) ?_
        refine jS (qT (cQ (cR [0, 1, 2, 3] ?_)))
        refine oP (r := []) [0, 1, 2, 3] (S' := [(2, iv x18), (3, iv x3)]) ?_
        refine oD (qT (jE ?_))
        have e := someS h0
        subst e
        refine qK [2, 3] (S' := [(2, iv x18), (3, iv x3)]) ?_
        exact post_ret (v := .tuple #[iv x18, iv x3]) (fun a ha => jU (vs := [iv x18, iv x3]) (.tmp (t := 2) (by kernel_rfl) (.tmp (t := 3) (by kernel_rfl) .nil)) ha (by kernel_rfl)) ⟨rfl, hI⟩
/-- cenotaph/cenotaphref03.Runes -/
theorem c95 (w0 w : World) (Z : Hp) (A : HP) (hI : Inv w0 Z w A) (hT : Tabs Z) (a0 : ByteArray) (r : (List Int)) (h0 : ref03_Runes a0 = some r) :
  Calls prog 95 #[.string a0] w (fun e w' => ∃ (A1 : Option Addr) (c1 : Nat), e = .returned (.slice A1 r.length c1) ∧ Inv w0 Z w' (star (ownS 3 (cI .i64) 1 A1 c1 r) A)) := by
 have e4 := calls_intro (R := (fun e w' => ∃ (A1 : Option Addr) (c1 : Nat), e = .returned (.slice A1 r.length c1) ∧ Inv w0 Z w' (star (ownS 3 (cI .i64) 1 A1 c1 r) A))) (w := w) (args := [.string a0]) (fn := Go.Proofs.Tryz.f95) 33 Go.Proofs.Tryz.func95 (by rfl) Go.Proofs.Tryz.ntmps95 (by kernel_rfl)
 refine e4 ?_
 clear e4
 unfold ref03_Runes at h0
 refine cQ (cR [0] ?_)
 refine oP (r := []) [0] (S' := [(0, .string a0)]) ?_
 refine oD (qT (cQ (cR [0] ?_)))
 refine oP (r := []) [0] (S' := [(0, .string a0), (3, .slice none 0 0)]) ?_
 refine oD (qT (cQ (cQ (cR [0] ?_))))
 refine oP (r := []) [0] (S' := [(0, .string a0), (3, .slice none 0 0), (4, iv 0)]) ?_
 refine oD (qT ?_)
 obtain ⟨r1, h1, h0⟩ := bindS h0
 refine CodT.meet1 (fun a w => ∃ (x1 : (List Int)) (A2 : Option Addr) (cp3 : Nat), x1 = r1 ∧ Fr 33 [(3, .slice A2 x1.length cp3)] a ∧ Inv w0 Z w (star (ownS 3 (cI .i64) 1 A2 cp3 x1) A)) ?_ ?_
 ·
  refine jB ?_
  have hI := ownS_nil (α := Int) hI 3 (cI .i64) 1
  refine (fun a ha => wp_loopN (fun k a w => ∃ (x4 : (List Int)) (x7 : Int) (A5 : Option Addr) (cp6 : Nat), ref03_Runes.l0 a0 k x4 x7 = some r1 ∧ Fr 33 [(0, .string a0), (3, .slice A5 x4.length cp6), (4, iv x7)] a ∧ Inv w0 Z w (star (ownS 3 (cI .i64) 1 A5 cp6 x4) A)) ?_ FU a w ⟨([] : List Int), 0, none, 0, h1, ha.keep [0, 3, 4] (by kernel_rfl), hI⟩)
  clear h1 hI
  rintro k a w ⟨x4, x7, A5, cp6, h1, ha, hI⟩
  rcases k with _ | k
  ·
   cases h1
  simp only [ref03_Runes.l0] at h1
  refine CodT.of ?_ ha
  refine cQ (cQ (cR [0, 1, 2, 3] ?_))
  refine oP (r := []) [0, 1, 2, 3] (S' := [(0, .string a0), (3, .slice A5 x4.length cp6), (4, iv x7), (10, .bool (decide (x7 < (a0.size : Int))))]) ?_
  refine oD (qT ?_)
  by_cases hb8 : (decide (x7 < (a0.size : Int))) = true
  ·
   rw [if_pos hb8] at h1
   refine cY (b := decide (x7 < (a0.size : Int))) hb8 ?_
   refine jS (qT (jB (cQ (cR [0, 1, 2, 3, 4, 5, 6, 7, 8] ?_))))
   refine oP (r := [2, 3, 4, 5, 6, 7, 8]) [0, 1] (S' := [(0, .string a0), (3, .slice A5 x4.length cp6), (4, iv x7), (12, .string a0), (13, iv x7)]) ?_
   obtain ⟨hg9, h1⟩ := guardS h1
   refine oC (jY (Yl.sliceStr10 (d := 14) (T := 9) (s := a0) (lo := x7) (by kernel_rfl) Go.Proofs.Tryz.underlying9 hg9) hI ?_)
   obtain ⟨⟨y11, y12⟩, hc10, h1⟩ := bindS h1
   try dsimp only at h1
   refine oC (jC (d := some 15) (n := 77) (vs := [.string (sx a0 x7 (a0.size : Int))]) (by kernel_rfl) en77 (c77 w0 w _ _ hI hT (sx a0 x7 (a0.size : Int)) _ hc10) ?_)
   rintro e w ⟨rfl, hI⟩
   refine ⟨_, rfl, ?_⟩
   refine oP (r := []) [4, 5, 6, 7, 8] (S' := [(0, .string a0), (3, .slice A5 x4.length cp6), (4, iv x7), (5, iv y11), (6, iv y12)]) ?_
   refine oD (qT ?_)
   obtain ⟨r2, h2, h1⟩ := bindS h1
   refine jM (fun a w => ∃ (x13 : Int), x13 = r2 ∧ Fr 33 [(0, .string a0), (3, .slice A5 x4.length cp6), (4, iv x7), (5, iv x13), (6, iv y12)] a ∧ Inv w0 Z w (star (ownS 3 (cI .i64) 1 A5 cp6 x4) A)) ?_ ?_
   ·
    refine cQ (cR [0, 1] ?_)
    refine oP (r := []) [0, 1] (S' := [(0, .string a0), (3, .slice A5 x4.length cp6), (4, iv x7), (5, iv y11), (6, iv y12), (19, .bool (decide (y11 < 0)))]) ?_
    refine oD (qT ?_)
    by_cases hb14 : (decide (y11 < 0)) = true
    ·
     rw [if_pos hb14] at h2
     refine cY (b := decide (y11 < 0)) hb14 ?_
     refine cR [0, 1, 2, 3, 4, 5] ?_
     refine oP (r := [2, 3, 4, 5]) [0, 1] (S' := [(0, .string a0), (3, .slice A5 x4.length cp6), (4, iv x7), (6, iv y12), (20, .string a0), (21, iv x7)]) ?_
     obtain ⟨hg15, h2⟩ := guardS h2
     refine oC (jY (Yl.indexStr (d := 22) (T := 9) (k := .i64) (j := x7) (s := a0) (by kernel_rfl) Go.Proofs.Tryz.underlying9 hg15.1 hg15.2) hI ?_)
     refine oP (r := []) [3, 4, 5] (S' := [(0, .string a0), (3, .slice A5 x4.length cp6), (4, iv x7), (5, iv (wi64 (1114112 + (wi64 (bt a0 x7))))), (6, iv y12)]) ?_
     refine oD ?_
     have e := someS h2
     subst e
     exact jT fun a ha => ⟨wi64 (1114112 + (wi64 (bt a0 x7))), rfl, ha.keep [0, 3, 4, 5, 6] (by kernel_rfl), hI⟩
    ·
     rw [if_neg hb14] at h2
     refine cN (b := decide (y11 < 0)) (by simpa using hb14) ?_
     refine jS ?_
     have e := someS h2
     subst e
     exact jT fun a ha => ⟨y11, rfl, ha.keep [0, 3, 4, 5, 6] (by kernel_rfl), hI⟩
   ·
    rintro a w ⟨x13, rfl, ha, hI⟩
    try dsimp only at h1
    refine CodT.of ?_ ha
    refine cQ (cR [0, 1, 2, 3, 4] ?_)
    refine oP (r := [2, 3, 4]) [0, 1] (S' := [(0, .string a0), (4, iv x7), (6, iv y12), (25, .slice A5 x4.length cp6), (26, iv x13)]) ?_
    refine oC (Does.buildSlice (en := (cI .i64)) (d := 27) (n := 1) (T := 139) (ps := [(0, iv x13)]) ([x13] : List Int) (by kernel_rfl) Go.Proofs.Tryz.underlying139 ty3 (by kernel_rfl) (by kernel_rfl) (by kernel_rfl) (by kernel_rfl) (len_all (fun _ => rfl)) hI ?_)
    intro b16 w hI
    obtain ⟨hg17, h1⟩ := guardS h1
    have hI := hI.mono (pick2 _ _ _)
    refine oC (Does.append (d := 28) (t := 139) (tx := 139) (ty := 139) (ys := x4) (zs := ([x13] : List Int)) (x := .slice (some ⟨b16, 0, none⟩) (([x13] : List Int).length) 1) (by kernel_rfl) Go.Proofs.Tryz.underlying139 ty3 (by kernel_rfl) hI (src_own Go.Proofs.Tryz.underlying139 (hI.mono (pick2 _ _ _)) (one_flat _ (fun _ => rfl))) (ownS_facts (hI.mono (pick2 _ _ _))).2.2 (by unfold LIM at hg17; omega) hg17 ?_)
    intro A18 cp19 w hI
    refine oP (r := []) [4] (S' := [(0, .string a0), (3, .slice A18 ((x4 ++ ([x13] : List Int)).length) cp19), (4, iv x7), (6, iv y12)]) ?_
    refine oD (qT (cR [0, 1, 2, 3] ?_))
    refine oP (r := []) [0, 1, 2, 3] (S' := [(0, .string a0), (3, .slice A18 ((x4 ++ ([x13] : List Int)).length) cp19), (4, iv (wi64 (x7 + y12)))]) ?_
    refine oD (jN ?_)
    have hI := hI.mono (pick2 _ _ _)
    have hI := hI.drop
    exact jT fun a ha => ⟨k, Nat.lt_succ_self k, x4 ++ ([x13] : List Int), wi64 (x7 + y12), A18, cp19, h1, ha.keep [0, 3, 4] (by kernel_rfl), hI⟩
  ·
   rw [if_neg hb8] at h1
   refine cN (b := decide (x7 < (a0.size : Int))) (by simpa using hb8) ?_
   refine jZ ?_
   refine jX (jX ?_)
   refine Qn.block ?_
   have e := someS h1
   subst e
   exact jT fun a ha => ⟨x4, A5, cp6, rfl, ha.keep [3] (by kernel_rfl), hI⟩
 ·
  rintro a w ⟨x1, A2, cp3, rfl, ha, hI⟩
  try dsimp only at h0
  refine Qn.of ?_ ha
  refine qT (cQ (cR [0, 1] ?_))
  refine oP (r := []) [0, 1] (S' := [(2, .slice A2 x1.length cp3)]) ?_
  refine oD (qT (jE ?_))
  have e := someS h0
  subst e
  refine qK [2] (S' := [(2, .slice A2 x1.length cp3)]) ?_
  exact post_ret (v := .slice A2 x1.length cp3) (fun a ha => jU (vs := [.slice A2 x1.length cp3]) (.tmp (t := 2) (by kernel_rfl) .nil) ha (by kernel_rfl)) ⟨A2, cp3, rfl, hI⟩
/-- cenotaph/cenotaphref03.Valid -/
theorem c75 (w0 w : World) (Z : Hp) (A : HP) (hI : Inv w0 Z w A) (hT : Tabs Z) (a0 : ByteArray) (r : Bool) (h0 : ref03_Valid a0 = some r) :
  Calls prog 75 #[.string a0] w (fun e w' => e = .returned (.bool r) ∧ Inv w0 Z w' A) := by
 have e4 := calls_intro (R := (fun e w' => e = .returned (.bool r) ∧ Inv w0 Z w' A)) (w := w) (args := [.string a0]) (fn := Go.Proofs.Tryz.f75) 63 Go.Proofs.Tryz.func75 (by rfl) Go.Proofs.Tryz.ntmps75 (by kernel_rfl)
 refine e4 ?_
 clear e4
 unfold ref03_Valid at h0
 refine cQ (cR [0] ?_)
 refine oP (r := []) [0] (S' := [(0, .string a0)]) ?_
 refine oD (qT (cQ (cR [0, 1, 2] ?_)))
 refine oP (r := [1, 2]) [0] (S' := [(6, .string a0)]) ?_
 obtain ⟨y2, hc1, h0⟩ := bindS h0
 try dsimp only at h0
 refine oC (jC (d := some 7) (n := 95) (vs := [.string a0]) (by kernel_rfl) en95 (c95 w0 w _ _ hI hT a0 _ hc1) ?_)
 rintro e w ⟨A3, cp4, rfl, hI⟩
 refine ⟨_, rfl, ?_⟩
 refine oP (r := []) [2] (S' := [(3, .slice A3 y2.length cp4)]) ?_
 refine oD (qT (cQ ?_))
 obtain ⟨r1, h1, h0⟩ := bindS h0
 refine jM (fun a w => ∃ (x5 : Bool), x5 = r1 ∧ Fr 63 [(3, .slice A3 y2.length cp4), (30, .bool x5)] a ∧ Inv w0 Z w (star (ownS 3 (cI .i64) 1 A3 cp4 y2) A)) ?_ ?_
 ·
  refine cR [0, 1, 2, 3, 4, 5, 6, 7, 8, 9, 10, 11, 12, 13, 14, 15, 16, 17, 18, 19, 20, 21, 22] ?_
  refine oP (r := [4, 5, 6, 7, 8, 9, 10, 11, 12, 13, 14, 15, 16, 17, 18, 19, 20, 21, 22]) [0, 1, 2, 3] (S' := [(3, .slice A3 y2.length cp4), (11, .bool (decide ((y2.length : Int) < 1)))]) ?_
  by_cases hb6 : (decide ((y2.length : Int) < 1)) = true
  ·
   rw [if_pos hb6] at h1
   refine OpsT.keep [3, 11] (S' := [(3, .slice A3 y2.length cp4), (11, .bool true)]) (by (try simp only [hb6]); kernel_rfl) ?_
   refine oP (r := []) [4, 5, 6, 7, 8, 9, 10, 11, 12, 13, 14, 15, 16, 17, 18, 19, 20, 21, 22] (S' := [(3, .slice A3 y2.length cp4), (30, .bool true)]) ?_
   refine oD ?_
   have e := someS h1
   subst e
   exact jT fun a ha => ⟨true, rfl, ha.keep [3, 30] (by kernel_rfl), hI⟩
  ·
   rw [if_neg hb6] at h1
   have hb6 : (decide ((y2.length : Int) < 1)) = false := by simpa using hb6
   refine OpsT.keep [3, 11] (S' := [(3, .slice A3 y2.length cp4), (11, .bool false)]) (by (try simp only [hb6]); kernel_rfl) ?_
   refine oP (r := [9, 10, 11, 12, 13, 14, 15, 16, 17, 18, 19, 20, 21, 22]) [4, 5, 6, 7, 8] (S' := [(3, .slice A3 y2.length cp4), (16, .bool (decide ((y2.length : Int) > 24)))]) ?_
   by_cases hb7 : (decide ((y2.length : Int) > 24)) = true
   ·
    rw [if_pos hb7] at h1
    refine OpsT.keep [3, 16] (S' := [(3, .slice A3 y2.length cp4), (16, .bool true)]) (by (try simp only [hb7]); kernel_rfl) ?_
    refine oP (r := []) [9, 10, 11, 12, 13, 14, 15, 16, 17, 18, 19, 20, 21, 22] (S' := [(3, .slice A3 y2.length cp4), (30, .bool true)]) ?_
    refine oD ?_
    have e := someS h1
    subst e
    exact jT fun a ha => ⟨true, rfl, ha.keep [3, 30] (by kernel_rfl), hI⟩
   ·
    rw [if_neg hb7] at h1
    have hb7 : (decide ((y2.length : Int) > 24)) = false := by simpa using hb7
    refine OpsT.keep [3, 16] (S' := [(3, .slice A3 y2.length cp4), (16, .bool false)]) (by (try simp only [hb7]); kernel_rfl) ?_
    refine oP (r := [10, 11, 12, 13, 14, 15, 16, 17, 18, 19, 20, 21, 22]) [9] (S' := [(3, .slice A3 y2.length cp4), (16, .bool false), (17, .slice A3 y2.length cp4)]) ?_
    obtain ⟨hg8, h1⟩ := guardS h1
    obtain ⟨g9, hA10, hr11, hl12⟩ := ownS_get hI hg8.1 hg8.2
    refine oC (jY (Yl.indexSlice (d := 18) (T := 139) (cc := cp4) (k := .i64) (j := 0) (g := g9) (o := 0) (by kernel_rfl) Go.Proofs.Tryz.underlying139 ty3 hA10 hg8.1 hg8.2) hI ?_)
    refine oC (jY (jL (d := 19) (T := 3) (v := iv (gt y2 0)) (by kernel_rfl) (ldR ty3 (v := iv (gt y2 0)) 0 (fun w hC => hr11 w0 w _ hC) (by kernel_rfl))) hI ?_)
    refine oP (r := [15, 16, 17, 18, 19, 20, 21, 22]) [12, 13, 14] (S' := [(3, .slice A3 y2.length cp4), (22, .bool ((gt y2 0) == 32))]) ?_
    by_cases hb13 : ((gt y2 0) == 32) = true
    ·
     rw [if_pos hb13] at h1
     refine OpsT.keep [3, 22] (S' := [(3, .slice A3 y2.length cp4), (22, .bool true)]) (by (try simp only [hb13]); kernel_rfl) ?_
     refine oP (r := []) [15, 16, 17, 18, 19, 20, 21, 22] (S' := [(3, .slice A3 y2.length cp4), (30, .bool true)]) ?_
     refine oD ?_
     have e := someS h1
     subst e
     exact jT fun a ha => ⟨true, rfl, ha.keep [3, 30] (by kernel_rfl), hI⟩
    ·
     rw [if_neg hb13] at h1
     have hb13 : ((gt y2 0) == 32) = false := by simpa using hb13
     refine OpsT.keep [3, 22] (S' := [(3, .slice A3 y2.length cp4), (22, .bool false)]) (by (try simp only [hb13]); kernel_rfl) ?_
     refine oP (r := [19, 20, 21, 22]) [15, 16, 17, 18] (S' := [(3, .slice A3 y2.length cp4), (22, .bool false), (23, .slice A3 y2.length cp4), (26, iv (wi64 ((y2.length : Int) - 1)))]) ?_
     obtain ⟨hg14, h1⟩ := guardS h1
     obtain ⟨g15, hA16, hr17, hl18⟩ := ownS_get hI hg14.1 hg14.2
     refine oC (jY (Yl.indexSlice (d := 27) (T := 139) (cc := cp4) (k := .i64) (j := wi64 ((y2.length : Int) - 1)) (g := g15) (o := 0) (by kernel_rfl) Go.Proofs.Tryz.underlying139 ty3 hA16 hg14.1 hg14.2) hI ?_)
     refine oC (jY (jL (d := 28) (T := 3) (v := iv (gt y2 (wi64 ((y2.length : Int) - 1)))) (by kernel_rfl) (ldR ty3 (v := iv (gt y2 (wi64 ((y2.length : Int) - 1)))) 0 (fun w hC => hr17 w0 w _ hC) (by kernel_rfl))) hI ?_)
     refine oP (r := []) [21, 22] (S' := [(3, .slice A3 y2.length cp4), (30, .bool ((gt y2 (wi64 ((y2.length : Int) - 1))) == 32))]) ?_
     refine oD ?_
     have e := someS h1
     subst e
     exact jT fun a ha => ⟨(gt y2 (wi64 ((y2.length : Int) - 1))) == 32, rfl, ha.keep [3, 30] (by kernel_rfl), hI⟩
 ·
  rintro a w ⟨x5, rfl, ha, hI⟩
  try dsimp only at h0
  refine CodT.of ?_ ha
  by_cases hb19 : x5 = true
  ·
   rw [if_pos hb19] at h0
   refine cY (b := x5) hb19 ?_
   refine cQ (cR [0] ?_)
   refine oP (r := []) [0] (S' := [(2, .bool false)]) ?_
   refine oD (qT (jE (jR ?_)))
   have hI := hI.drop
   have e := someS h0
   subst e
   refine qK [2] (S' := [(2, .bool false)]) ?_
   exact post_ret (v := .bool false) (fun a ha => jU (vs := [.bool false]) (.tmp (t := 2) (by kernel_rfl) .nil) ha (by kernel_rfl)) ⟨rfl, hI⟩
  ·
   rw [if_neg hb19] at h0
   refine cN (b := x5) (by simpa using hb19) ?_
   refine jS (qT (cQ (cQ (cR [0] ?_))))
   refine oP (r := []) [0] (S' := [(3, .slice A3 y2.length cp4), (4, iv 0)]) ?_
   refine oD (qT ?_)
   obtain ⟨r1, h1, h0⟩ := bindS h0
   refine CodT.meet1 (fun a w => .inr () = r1 ∧ Fr 63 [] a ∧ Inv w0 Z w A) ?_ ?_
   ·
    refine jB ?_
    refine (fun a ha => wp_loopN (fun k a w => ∃ (x20 : Int), ref03_Valid.l0 y2 k x20 = some r1 ∧ Fr 63 [(3, .slice A3 y2.length cp4), (4, iv x20)] a ∧ Inv w0 Z w (star (ownS 3 (cI .i64) 1 A3 cp4 y2) A)) ?_ FU a w ⟨0, h1, ha.keep [3, 4] (by kernel_rfl), hI⟩)
    clear h1 hI
    rintro k a w ⟨x20, h1, ha, hI⟩
    rcases k with _ | k
    ·
     cases h1
    simp only [ref03_Valid.l0] at h1
    refine CodT.of ?_ ha
    refine cQ (cQ (cR [0, 1, 2, 3] ?_))
    refine oP (r := []) [0, 1, 2, 3] (S' := [(3, .slice A3 y2.length cp4), (4, iv x20), (34, .bool (decide (x20 < (y2.length : Int))))]) ?_
    refine oD (qT ?_)
    by_cases hb21 : (decide (x20 < (y2.length : Int))) = true
    ·
     rw [if_pos hb21] at h1
     refine cY (b := decide (x20 < (y2.length : Int))) hb21 ?_
     refine jS (qT (cQ (jB (cQ (cR [0, 1, 2, 3, 4] ?_)))))
     refine oP (r := [2, 3, 4]) [0, 1] (S' := [(3, .slice A3 y2.length cp4), (4, iv x20), (37, .slice A3 y2.length cp4), (38, iv x20)]) ?_
     obtain ⟨hg22, h1⟩ := guardS h1
     obtain ⟨g23, hA24, hr25, hl26⟩ := ownS_get hI hg22.1 hg22.2
     refine oC (jY (Yl.indexSlice (d := 39) (T := 139) (cc := cp4) (k := .i64) (j := x20) (g := g23) (o := 0) (by kernel_rfl) Go.Proofs.Tryz.underlying139 ty3 hA24 hg22.1 hg22.2) hI ?_)
     refine oC (jY (jL (d := 40) (T := 3) (v := iv (gt y2 x20)) (by kernel_rfl) (ldR ty3 (v := iv (gt y2 x20)) 0 (fun w hC => hr25 w0 w _ hC) (by kernel_rfl))) hI ?_)
     refine oP (r := []) [4] (S' := [(3, .slice A3 y2.length cp4), (4, iv x20), (5, iv (gt y2 x20))]) ?_
     refine oD (qT ?_)
     obtain ⟨r2, h2, h1⟩ := bindS h1
     refine jM (fun a w => ∃ (x27 : Bool), x27 = r2 ∧ Fr 63 [(3, .slice A3 y2.length cp4), (4, iv x20), (62, .bool x27)] a ∧ Inv w0 Z w (star (ownS 3 (cI .i64) 1 A3 cp4 y2) A)) ?_ ?_
     ·
      refine cR [0, 1, 2, 3, 4, 5, 6, 7, 8, 9, 10, 11, 12, 13, 14, 15, 16, 17, 18, 19, 20, 21] ?_
      refine oP (r := [3, 4, 5, 6, 7, 8, 9, 10, 11, 12, 13, 14, 15, 16, 17, 18, 19, 20, 21]) [0, 1, 2] (S' := [(3, .slice A3 y2.length cp4), (4, iv x20), (5, iv (gt y2 x20)), (43, .bool (decide ((gt y2 x20) < 32)))]) ?_
      by_cases hb28 : (decide ((gt y2 x20) < 32)) = true
      ·
       rw [if_pos hb28] at h2
       refine OpsT.keep [3, 4, 5, 43] (S' := [(3, .slice A3 y2.length cp4), (4, iv x20), (5, iv (gt y2 x20)), (43, .bool true)]) (by (try simp only [hb28]); kernel_rfl) ?_
       refine oP (r := []) [3, 4, 5, 6, 7, 8, 9, 10, 11, 12, 13, 14, 15, 16, 17, 18, 19, 20, 21] (S' := [(3, .slice A3 y2.length cp4), (4, iv x20), (62, .bool true)]) ?_
       refine oD ?_
       have e := someS h2
       subst e
       exact jT fun a ha => ⟨true, rfl, ha.keep [3, 4, 62] (by kernel_rfl), hI⟩
      ·
       rw [if_neg hb28] at h2
       have hb28 : (decide ((gt y2 x20) < 32)) = false := by simpa using hb28
       refine OpsT.keep [3, 4, 5, 43] (S' := [(3, .slice A3 y2.length cp4), (4, iv x20), (5, iv (gt y2 x20)), (43, .bool false)]) (by (try simp only [hb28]); kernel_rfl) ?_
       refine oP (r := [7, 8, 9, 10, 11, 12, 13, 14, 15, 16, 17, 18, 19, 20, 21]) [3, 4, 5, 6] (S' := [(3, .slice A3 y2.length cp4), (4, iv x20), (5, iv (gt y2 x20)), (47, .bool ((gt y2 x20) == 47))]) ?_
       by_cases hb29 : ((gt y2 x20) == 47) = true
       ·
        rw [if_pos hb29] at h2
        refine OpsT.keep [3, 4, 5, 47] (S' := [(3, .slice A3 y2.length cp4), (4, iv x20), (5, iv (gt y2 x20)), (47, .bool true)]) (by (try simp only [hb29]); kernel_rfl) ?_
        refine oP (r := []) [7, 8, 9, 10, 11, 12, 13, 14, 15, 16, 17, 18, 19, 20, 21] (S' := [(3, .slice A3 y2.length cp4), (4, iv x20), (62, .bool true)]) ?_
        refine oD ?_
        have e := someS h2
        subst e
        exact jT fun a ha => ⟨true, rfl, ha.keep [3, 4, 62] (by kernel_rfl), hI⟩
       ·
        rw [if_neg hb29] at h2
        have hb29 : ((gt y2 x20) == 47) = false := by simpa using hb29
        refine OpsT.keep [3, 4, 5, 47] (S' := [(3, .slice A3 y2.length cp4), (4, iv x20), (5, iv (gt y2 x20)), (47, .bool false)]) (by (try simp only [hb29]); kernel_rfl) ?_
        refine oP (r := [10, 11, 12, 13, 14, 15, 16, 17, 18, 19, 20, 21]) [7, 8, 9] (S' := [(3, .slice A3 y2.length cp4), (4, iv x20), (5, iv (gt y2 x20)), (47, .bool false), (50, .bool (decide ((gt y2 x20) ≥ 127)))]) ?_
        by_cases hb30 : (decide ((gt y2 x20) ≥ 127)) = true
        ·
         rw [if_pos hb30] at h2
         refine OpsT.keep [3, 4, 5, 47, 50] (S' := [(3, .slice A3 y2.length cp4), (4, iv x20), (5, iv (gt y2 x20)), (47, .bool false), (50, .bool true)]) (by (try simp only [hb30]); kernel_rfl) ?_
         refine oP (r := [15, 16, 17, 18, 19, 20, 21]) [10, 11, 12, 13, 14] (S' := [(3, .slice A3 y2.length cp4), (4, iv x20), (5, iv (gt y2 x20)), (55, .bool (decide ((gt y2 x20) ≤ 159)))]) ?_
         by_cases hb31 : (decide ((gt y2 x20) ≤ 159)) = true
         ·
          rw [if_pos hb31] at h2
          refine OpsT.keep [3, 4, 5, 55] (S' := [(3, .slice A3 y2.length cp4), (4, iv x20), (5, iv (gt y2 x20)), (55, .bool true)]) (by (try simp only [hb31]); kernel_rfl) ?_
          refine oP (r := []) [15, 16, 17, 18, 19, 20, 21] (S' := [(3, .slice A3 y2.length cp4), (4, iv x20), (62, .bool true)]) ?_
          refine oD ?_
          have e := someS h2
          subst e
          exact jT fun a ha => ⟨true, rfl, ha.keep [3, 4, 62] (by kernel_rfl), hI⟩
         ·
          rw [if_neg hb31] at h2
          have hb31 : (decide ((gt y2 x20) ≤ 159)) = false := by simpa using hb31
          refine OpsT.keep [3, 4, 5, 55] (S' := [(3, .slice A3 y2.length cp4), (4, iv x20), (5, iv (gt y2 x20)), (55, .bool false)]) (by (try simp only [hb31]); kernel_rfl) ?_
          refine oP (r := [19, 20, 21]) [15, 16, 17, 18] (S' := [(3, .slice A3 y2.length cp4), (4, iv x20), (5, iv (gt y2 x20)), (59, .bool ((gt y2 x20) == 65533))]) ?_
          by_cases hb32 : ((gt y2 x20) == 65533) = true
          ·
           rw [if_pos hb32] at h2
           refine OpsT.keep [3, 4, 5, 59] (S' := [(3, .slice A3 y2.length cp4), (4, iv x20), (5, iv (gt y2 x20)), (59, .bool true)]) (by (try simp only [hb32]); kernel_rfl) ?_
           refine oP (r := []) [19, 20, 21] (S' := [(3, .slice A3 y2.length cp4), (4, iv x20), (62, .bool true)]) ?_
           refine oD ?_
           have e := someS h2
           subst e
           exact jT fun a ha => ⟨true, rfl, ha.keep [3, 4, 62] (by kernel_rfl), hI⟩
          ·
           rw [if_neg hb32] at h2
           have hb32 : ((gt y2 x20) == 65533) = false := by simpa using hb32
           refine OpsT.keep [3, 4, 5, 59] (S' := [(3, .slice A3 y2.length cp4), (4, iv x20), (5, iv (gt y2 x20)), (59, .bool false)]) (by (try simp only [hb32]); kernel_rfl) ?_
           refine oP (r := []) [19, 20, 21] (S' := [(3, .slice A3 y2.length cp4), (4, iv x20), (62, .bool (decide ((gt y2 x20) ≥ 1114112)))]) ?_
           refine oD ?_
           have e := someS h2
           subst e
           exact jT fun a ha => ⟨decide ((gt y2 x20) ≥ 1114112), rfl, ha.keep [3, 4, 62] (by kernel_rfl), hI⟩
        ·
         rw [if_neg hb30] at h2
         have hb30 : (decide ((gt y2 x20) ≥ 127)) = false := by simpa using hb30
         refine OpsT.keep [3, 4, 5, 47, 50] (S' := [(3, .slice A3 y2.length cp4), (4, iv x20), (5, iv (gt y2 x20)), (47, .bool false), (50, .bool false)]) (by (try simp only [hb30]); kernel_rfl) ?_
         refine oP (r := [19, 20, 21]) [10, 11, 12, 13, 14, 15, 16, 17, 18] (S' := [(3, .slice A3 y2.length cp4), (4, iv x20), (5, iv (gt y2 x20)), (59, .bool ((gt y2 x20) == 65533))]) ?_
         by_cases hb33 : ((gt y2 x20) == 65533) = true
         ·
          rw [if_pos hb33] at h2
          refine OpsT.keep [3, 4, 5, 59] (S' := [(3, .slice A3 y2.length cp4), (4, iv x20), (5, iv (gt y2 x20)), (59, .bool true)]) (by (try simp only [hb33]); kernel_rfl) ?_
          refine oP (r := []) [19, 20, 21] (S' := [(3, .slice A3 y2.length cp4), (4, iv x20), (62, .bool true)]) ?_
          refine oD ?_
          have e := someS h2
          subst e
          exact jT fun a ha => ⟨true, rfl, ha.keep [3, 4, 62] (by kernel_rfl), hI⟩
         ·
          rw [if_neg hb33] at h2
          have hb33 : ((gt y2 x20) == 65533) = false := by simpa using hb33
          refine OpsT.keep [3, 4, 5, 59] (S' := [(3, .slice A3 y2.length cp4), (4, iv x20), (5, iv (gt y2 x20)), (59, .bool false)]) (by (try simp only [hb33]); kernel_rfl) ?_
          refine oP (r := []) [19, 20, 21] (S' := [(3, .slice A3 y2.length cp4), (4, iv x20), (62, .bool (decide ((gt y2 x20) ≥ 1114112)))]) ?_
          refine oD ?_
          have e := someS h2
          subst e
          exact jT fun a ha => ⟨decide ((gt y2 x20) ≥ 1114112), rfl, ha.keep [3, 4, 62] (by kernel_rfl), hI⟩
     ·
      rintro a w ⟨x27, rfl, ha, hI⟩
      try dsimp only at h1
      refine CodT.of ?_ ha
      by_cases hb34 : x27 = true
      ·
       rw [if_pos hb34] at h1
       refine cY (b := x27) hb34 ?_
       refine cQ (cR [0] ?_)
       refine oP (r := []) [0] (S' := [(2, .bool false)]) ?_
       refine oD (qT (jE (jQ (jR (jR (jQ (jR (jR ?_))))))))
       have hI := hI.drop
       have e := someS h1
       subst e
       try dsimp only at h0
       have e := someS h0
       subst e
       refine qK [2] (S' := [(2, .bool false)]) ?_
       exact post_ret (v := .bool false) (fun a ha => jU (vs := [.bool false]) (.tmp (t := 2) (by kernel_rfl) .nil) ha (by kernel_rfl)) ⟨rfl, hI⟩
      ·
       rw [if_neg hb34] at h1
       refine cN (b := x27) (by simpa using hb34) ?_
       refine jS (jN (qT (cR [0, 1, 2] ?_)))
       refine oP (r := []) [0, 1, 2] (S' := [(3, .slice A3 y2.length cp4), (4, iv (wi64 (x20 + 1)))]) ?_
       refine oD ?_
       exact jT fun a ha => ⟨k, Nat.lt_succ_self k, wi64 (x20 + 1), h1, ha.keep [3, 4] (by kernel_rfl), hI⟩
    ·
     rw [if_neg hb21] at h1
     refine cN (b := decide (x20 < (y2.length : Int))) (by simpa using hb21) ?_
     refine jZ ?_
     refine jX (jX ?_)
     refine Qn.block ?_
     have hI := hI.drop
     have e := someS h1
     subst e
     exact jT fun a ha => ⟨rfl, ha.keep [] (by kernel_rfl), hI⟩
   ·
    rintro a w ⟨rfl, ha, hI⟩
    try dsimp only at h0
    refine Qn.of ?_ ha
    refine qT (cQ (cR [0] ?_))
    refine oP (r := []) [0] (S' := [(2, .bool true)]) ?_
    refine oD (qT (jE ?_))
    have e := someS h0
    subst e
    refine qK [2] (S' := [(2, .bool true)]) ?_
    exact post_ret (v := .bool true) (fun a ha => jU (vs := [.bool true]) (.tmp (t := 2) (by kernel_rfl) .nil) ha (by kernel_rfl)) ⟨rfl, hI⟩
/-- cenotaph/cenotaphref05.Valid -/
theorem c54 (w0 w : World) (Z : Hp) (A : HP) (hI : Inv w0 Z w A) (hT : Tabs Z) (a0 : ApiEvent) (hl1 : a0.Sum.length = 32) (r : Bool) (h0 : ref05_Valid a0 = some r) :
  Calls prog 54 #[.agg (c_ApiEvent a0).toArray] w (fun e w' => e = .returned (.bool r) ∧ Inv w0 Z w' A) := by
 have e4 := calls_intro (R := (fun e w' => e = .returned (.bool r) ∧ Inv w0 Z w' A)) (w := w) (args := [.agg (c_ApiEvent a0).toArray]) (fn := Go.Proofs.Tryz.f54) 131 Go.Proofs.Tryz.func54 (by rfl) Go.Proofs.Tryz.ntmps54 (by kernel_rfl)
 refine e4 ?_
 clear e4
 unfold ref05_Valid at h0
 refine cQ (cR [0, 1] ?_)
 refine oC (Does.boxL (d := 1) (T := 50) (v := .agg (c_ApiEvent a0).toArray) (c_ApiEvent a0) (by kernel_rfl) hI (by kernel_rfl) ?_)
 intro b2 w hI
 refine oP (r := []) [1] (S' := [(1, pb b2)]) ?_
 refine oD (qT (cQ ?_))
 obtain ⟨r1, h1, h0⟩ := bindS h0
 refine jM (fun a w => ∃ (x3 : Bool), x3 = r1 ∧ Fr 131 [(1, pb b2), (18, .bool x3)] a ∧ Inv w0 Z w (star (pt b2 (.cells (c_ApiEvent a0).toArray 50 (0, 0))) A)) ?_ ?_
 ·
  refine cR [0, 1, 2, 3, 4, 5, 6, 7] ?_
  refine oP (r := [1, 2, 3, 4, 5, 6, 7]) [0] (S' := [(1, pb b2), (11, pb b2)]) ?_
  refine oC (jY (jL (d := 12) (T := 48) (v := iv a0.Kind) (by kernel_rfl) (ldB ty48 (l := c_ApiEvent a0) (o := 0) (v := iv a0.Kind) (ent_refl _) (by kernel_rfl))) hI ?_)
  refine oP (r := [4, 5, 6, 7]) [2, 3] (S' := [(1, pb b2), (14, .bool (decide (a0.Kind < 0)))]) ?_
  by_cases hb4 : (decide (a0.Kind < 0)) = true
  ·
   rw [if_pos hb4] at h1
   refine OpsT.keep [1, 14] (S' := [(1, pb b2), (14, .bool true)]) (by (try simp only [hb4]); kernel_rfl) ?_
   refine oP (r := []) [4, 5, 6, 7] (S' := [(1, pb b2), (18, .bool true)]) ?_
   refine oD ?_
   have e := someS h1
   subst e
   exact jT fun a ha => ⟨true, rfl, ha.keep [1, 18] (by kernel_rfl), hI⟩
  ·
   rw [if_neg hb4] at h1
   have hb4 : (decide (a0.Kind < 0)) = false := by simpa using hb4
   refine OpsT.keep [1, 14] (S' := [(1, pb b2), (14, .bool false)]) (by (try simp only [hb4]); kernel_rfl) ?_
   refine oP (r := [5, 6, 7]) [4] (S' := [(1, pb b2), (14, .bool false), (15, pb b2)]) ?_
   refine oC (jY (jL (d := 16) (T := 48) (v := iv a0.Kind) (by kernel_rfl) (ldB ty48 (l := c_ApiEvent a0) (o := 0) (v := iv a0.Kind) (ent_refl _) (by kernel_rfl))) hI ?_)
   refine oP (r := []) [6, 7] (S' := [(1, pb b2), (18, .bool (decide (a0.Kind > 7)))]) ?_
   refine oD ?_
   have e := someS h1
   subst e
   exact jT fun a ha => ⟨decide (a0.Kind > 7), rfl, ha.keep [1, 18] (by kernel_rfl), hI⟩
 ·
  rintro a w ⟨x3, rfl, ha, hI⟩
  try dsimp only at h0
  refine CodT.of ?_ ha
  by_cases hb5 : x3 = true
  ·
   rw [if_pos hb5] at h0
   refine cY (b := x3) hb5 ?_
   refine cQ (cR [0] ?_)
   refine oP (r := []) [0] (S' := [(2, .bool false)]) ?_
   refine oD (qT (jE (jR ?_)))
   have hI := hI.drop
   have e := someS h0
   subst e
   refine qK [2] (S' := [(2, .bool false)]) ?_
   exact post_ret (v := .bool false) (fun a ha => jU (vs := [.bool false]) (.tmp (t := 2) (by kernel_rfl) .nil) ha (by kernel_rfl)) ⟨rfl, hI⟩
  ·
   rw [if_neg hb5] at h0
   refine cN (b := x3) (by simpa using hb5) ?_
   refine jS (qT (cQ (cR [0, 1, 2, 3, 4] ?_)))
   refine oP (r := [1, 2, 3, 4]) [0] (S' := [(1, pb b2), (19, pb b2)]) ?_
   refine oC (jY (jL (d := 20) (T := 48) (v := iv a0.Kind) (by kernel_rfl) (ldB ty48 (l := c_ApiEvent a0) (o := 0) (v := iv a0.Kind) (ent_refl _) (by kernel_rfl))) hI ?_)
   obtain ⟨y7, hc6, h0⟩ := bindS h0
   try dsimp only at h0
   refine oC (jC (d := some 21) (n := 55) (vs := [iv a0.Kind]) (by kernel_rfl) en55 (c55 w0 w _ _ hI hT a0.Kind _ hc6) ?_)
   rintro e w ⟨rfl, hl8, hI⟩
   refine ⟨_, rfl, ?_⟩
   refine oC (jA (d := 3) (T := 90) (cA Value.bool (List.replicate 5 (false : Bool))) (by kernel_rfl) ty90 hI (by kernel_rfl) ?_)
   intro b9 w hI
   refine oC (jV (T := 90) (b := b9) (n := 5) (xs := (List.replicate 5 (false : Bool))) (ys := y7) (by kernel_rfl) ty90 hI (fun _ => rfl) (by kernel_rfl) hl8 ?_)
   intro w hI
   refine oD (qT (cQ (cR [0] ?_)))
   refine oP (r := []) [0] (S' := [(1, pb b2), (3, pb b9), (4, iv 0)]) ?_
   refine oD (qT ?_)
   obtain ⟨r1, h1, h0⟩ := bindS h0
   refine jM (fun a w => ∃ (x10 : Int), x10 = r1 ∧ Fr 131 [(1, pb b2), (3, pb b9), (4, iv x10)] a ∧ Inv w0 Z w (star (pt b9 (.cells (cA Value.bool y7).toArray 90 (0, 0))) (star (pt b2 (.cells (c_ApiEvent a0).toArray 50 (0, 0))) A))) ?_ ?_
   ·
    refine cQ (cR [0, 1, 2] ?_)
    refine oP (r := [1, 2]) [0] (S' := [(1, pb b2), (3, pb b9), (4, iv 0), (22, pb b2)]) ?_
    refine oC (jY (jL (d := 23) (T := 48) (v := iv a0.Kind) (by kernel_rfl) (ldB ty48 (l := c_ApiEvent a0) (o := 0) (v := iv a0.Kind) (pick2 _ _ _) (by kernel_rfl))) hI ?_)
    refine oP (r := []) [2] (S' := [(1, pb b2), (3, pb b9), (4, iv 0), (24, .bool (a0.Kind == 1))]) ?_
    refine oD (qT ?_)
    by_cases hb11 : (a0.Kind == 1) = true
    ·
     rw [if_pos hb11] at h1
     refine cY (b := a0.Kind == 1) hb11 ?_
     refine cR [0] ?_
     refine oP (r := []) [0] (S' := [(1, pb b2), (3, pb b9), (4, iv 1)]) ?_
     refine oD ?_
     have e := someS h1
     subst e
     exact jT fun a ha => ⟨1, rfl, ha.keep [1, 3, 4] (by kernel_rfl), hI⟩
    ·
     rw [if_neg hb11] at h1
     refine cN (b := a0.Kind == 1) (by simpa using hb11) ?_
     refine jS ?_
     have e := someS h1
     subst e
     exact jT fun a ha => ⟨0, rfl, ha.keep [1, 3, 4] (by kernel_rfl), hI⟩
   ·
    rintro a w ⟨x10, rfl, ha, hI⟩
    try dsimp only at h0
    refine CodT.of ?_ ha
    refine cQ (cR [0, 1, 2, 3] ?_)
    refine oP (r := [1, 2, 3]) [0] (S' := [(1, pb b2), (3, pb b9), (4, iv x10), (25, .pointer (some ⟨b2, 2, none⟩))]) ?_
    refine oC (jY (jL (d := 26) (T := 9) (v := .string a0.Name) (by kernel_rfl) (ldB ty9 (l := c_ApiEvent a0) (o := 2) (v := .string a0.Name) (pick2 _ _ _) (by kernel_rfl))) hI ?_)
    obtain ⟨y13, hc12, h0⟩ := bindS h0
    try dsimp only at h0
    refine oC (jC (d := some 27) (n := 75) (vs := [.string a0.Name]) (by kernel_rfl) en75 (c75 w0 w _ _ hI hT a0.Name _ hc12) ?_)
    rintro e w ⟨rfl, hI⟩
    refine ⟨_, rfl, ?_⟩
    refine oP (r := []) [3] (S' := [(1, pb b2), (3, pb b9), (4, iv x10), (5, .bool y13)]) ?_
    refine oD (qT ?_)
    obtain ⟨r1, h1, h0⟩ := bindS h0
    refine jM (fun a w => ∃ (x14 : Bool), x14 = r1 ∧ Fr 131 [(1, pb b2), (3, pb b9), (4, iv x10), (5, .bool y13), (6, .bool x14)] a ∧ Inv w0 Z w (star (pt b9 (.cells (cA Value.bool y7).toArray 90 (0, 0))) (star (pt b2 (.cells (c_ApiEvent a0).toArray 50 (0, 0))) A))) ?_ ?_
    ·
     refine cR [0, 1, 2, 3, 4, 5, 6, 7, 8, 9, 10, 11, 12, 13, 14, 15, 16, 17, 18, 19, 20, 21, 22] ?_
     refine oP (r := [1, 2, 3, 4, 5, 6, 7, 8, 9, 10, 11, 12, 13, 14, 15, 16, 17, 18, 19, 20, 21, 22]) [0] (S' := [(1, pb b2), (3, pb b9), (4, iv x10), (5, .bool y13), (28, pb b9)]) ?_
     refine oC (jY (jL (d := 29) (T := 4) (v := .bool (gt y7 0)) (by kernel_rfl) (ldB ty4 (l := cA Value.bool y7) (o := 0) (v := .bool (gt y7 0)) (ent_refl _) (arr_getC _ _ 0 hl8 (by kernel_rfl)))) hI ?_)
     refine oP (r := [3, 4, 5, 6, 7, 8, 9, 10, 11, 12, 13, 14, 15, 16, 17, 18, 19, 20, 21, 22]) [2] (S' := [(1, pb b2), (3, pb b9), (4, iv x10), (5, .bool y13), (30, .bool (gt y7 0))]) ?_
     by_cases hb15 : (gt y7 0) = true
     ·
      rw [if_pos hb15] at h1
      refine OpsT.keep [1, 3, 4, 5, 30] (S' := [(1, pb b2), (3, pb b9), (4, iv x10), (5, .bool y13), (30, .bool true)]) (by (try simp only [hb15]); kernel_rfl) ?_
      refine oP (r := [4, 5, 6, 7, 8, 9, 10, 11, 12, 13, 14, 15, 16, 17, 18, 19, 20, 21, 22]) [3] (S' := [(1, pb b2), (3, pb b9), (4, iv x10), (5, .bool y13), (30, .bool true), (31, .pointer (some ⟨b2, 1, none⟩))]) ?_
      refine oC (jY (jL (d := 32) (T := 3) (v := iv a0.ID) (by kernel_rfl) (ldB ty3 (l := c_ApiEvent a0) (o := 1) (v := iv a0.ID) (pick2 _ _ _) (by kernel_rfl))) hI ?_)
      refine oP (r := [8, 9, 10, 11, 12, 13, 14, 15, 16, 17, 18, 19, 20, 21, 22]) [5, 6, 7] (S' := [(1, pb b2), (3, pb b9), (4, iv x10), (5, .bool y13), (35, .bool (decide (a0.ID ≥ 1)))]) ?_
      by_cases hb16 : (decide (a0.ID ≥ 1)) = true
      ·
       rw [if_pos hb16] at h1
       refine OpsT.keep [1, 3, 4, 5, 35] (S' := [(1, pb b2), (3, pb b9), (4, iv x10), (5, .bool y13), (35, .bool true)]) (by (try simp only [hb16]); kernel_rfl) ?_
       refine oP (r := [9, 10, 11, 12, 13, 14, 15, 16, 17, 18, 19, 20, 21, 22]) [8] (S' := [(1, pb b2), (3, pb b9), (4, iv x10), (5, .bool y13), (35, .bool true), (36, .pointer (some ⟨b2, 1, none⟩))]) ?_
       refine oC (jY (jL (d := 37) (T := 3) (v := iv a0.ID) (by kernel_rfl) (ldB ty3 (l := c_ApiEvent a0) (o := 1) (v := iv a0.ID) (pick2 _ _ _) (by kernel_rfl))) hI ?_)
       refine oP (r := [13, 14, 15, 16, 17, 18, 19, 20, 21, 22]) [10, 11, 12] (S' := [(1, pb b2), (3, pb b9), (4, iv x10), (5, .bool y13), (40, .bool (decide (a0.ID ≤ 1099511627776)))]) ?_
       by_cases hb17 : (decide (a0.ID ≤ 1099511627776)) = true
       ·
        rw [if_pos hb17] at h1
        refine OpsT.keep [1, 3, 4, 5, 40] (S' := [(1, pb b2), (3, pb b9), (4, iv x10), (5, .bool y13), (40, .bool true)]) (by (try simp only [hb17]); kernel_rfl) ?_
        refine oP (r := []) [13, 14, 15, 16, 17, 18, 19, 20, 21, 22] (S' := [(1, pb b2), (3, pb b9), (4, iv x10), (5, .bool y13), (6, .bool true)]) ?_
        refine oD ?_
        have e := someS h1
        subst e
        exact jT fun a ha => ⟨true, rfl, ha.keep [1, 3, 4, 5, 6] (by kernel_rfl), hI⟩
       ·
        rw [if_neg hb17] at h1
        have hb17 : (decide (a0.ID ≤ 1099511627776)) = false := by simpa using hb17
        refine OpsT.keep [1, 3, 4, 5, 40] (S' := [(1, pb b2), (3, pb b9), (4, iv x10), (5, .bool y13), (40, .bool false)]) (by (try simp only [hb17]); kernel_rfl) ?_
        refine oP (r := [14, 15, 16, 17, 18, 19, 20, 21, 22]) [13] (S' := [(1, pb b2), (3, pb b9), (4, iv x10), (5, .bool y13), (40, .bool false), (41, pb b9)]) ?_
        refine oC (jY (jL (d := 42) (T := 4) (v := .bool (gt y7 0)) (by kernel_rfl) (ldB ty4 (l := cA Value.bool y7) (o := 0) (v := .bool (gt y7 0)) (ent_refl _) (arr_getC _ _ 0 hl8 (by kernel_rfl)))) hI ?_)
        refine oP (r := [17, 18, 19, 20, 21, 22]) [15, 16] (S' := [(1, pb b2), (3, pb b9), (4, iv x10), (5, .bool y13), (40, .bool false), (44, .bool (!(gt y7 0)))]) ?_
        by_cases hb18 : (!(gt y7 0)) = true
        ·
         rw [if_pos hb18] at h1
         refine OpsT.keep [1, 3, 4, 5, 40, 44] (S' := [(1, pb b2), (3, pb b9), (4, iv x10), (5, .bool y13), (40, .bool false), (44, .bool true)]) (by (try simp only [hb18]); kernel_rfl) ?_
         refine oP (r := [18, 19, 20, 21, 22]) [17] (S' := [(1, pb b2), (3, pb b9), (4, iv x10), (5, .bool y13), (40, .bool false), (44, .bool true), (45, .pointer (some ⟨b2, 1, none⟩))]) ?_
         refine oC (jY (jL (d := 46) (T := 3) (v := iv a0.ID) (by kernel_rfl) (ldB ty3 (l := c_ApiEvent a0) (o := 1) (v := iv a0.ID) (pick2 _ _ _) (by kernel_rfl))) hI ?_)
         refine oP (r := []) [19, 20, 21, 22] (S' := [(1, pb b2), (3, pb b9), (4, iv x10), (5, .bool y13), (6, .bool (a0.ID == 0))]) ?_
         refine oD ?_
         have e := someS h1
         subst e
         exact jT fun a ha => ⟨a0.ID == 0, rfl, ha.keep [1, 3, 4, 5, 6] (by kernel_rfl), hI⟩
        ·
         rw [if_neg hb18] at h1
         have hb18 : (!(gt y7 0)) = false := by simpa using hb18
         refine OpsT.keep [1, 3, 4, 5, 40, 44] (S' := [(1, pb b2), (3, pb b9), (4, iv x10), (5, .bool y13), (40, .bool false), (44, .bool false)]) (by (try simp only [hb18]); kernel_rfl) ?_
         refine oP (r := []) [17, 18, 19, 20, 21, 22] (S' := [(1, pb b2), (3, pb b9), (4, iv x10), (5, .bool y13), (6, .bool false)]) ?_
         refine oD ?_
         have e := someS h1
         subst e
         exact jT fun a ha => ⟨false, rfl, ha.keep [1, 3, 4, 5, 6] (by kernel_rfl), hI⟩
      ·
       rw [if_neg hb16] at h1
       have hb16 : (decide (a0.ID ≥ 1)) = false := by simpa using hb16
       refine OpsT.keep [1, 3, 4, 5, 35] (S' := [(1, pb b2), (3, pb b9), (4, iv x10), (5, .bool y13), (35, .bool false)]) (by (try simp only [hb16]); kernel_rfl) ?_
       refine oP (r := [14, 15, 16, 17, 18, 19, 20, 21, 22]) [8, 9, 10, 11, 12, 13] (S' := [(1, pb b2), (3, pb b9), (4, iv x10), (5, .bool y13), (40, .bool false), (41, pb b9)]) ?_
       refine oC (jY (jL (d := 42) (T := 4) (v := .bool (gt y7 0)) (by kernel_rfl) (ldB ty4 (l := cA Value.bool y7) (o := 0) (v := .bool (gt y7 0)) (ent_refl _) (arr_getC _ _ 0 hl8 (by kernel_rfl)))) hI ?_)
       refine oP (r := [17, 18, 19, 20, 21, 22]) [15, 16] (S' := [(1, pb b2), (3, pb b9), (4, iv x10), (5, .bool y13), (40, .bool false), (44, .bool (!(gt y7 0)))]) ?_
       by_cases hb19 : (!(gt y7 0)) = true
       ·
        rw [if_pos hb19] at h1
        refine OpsT.keep [1, 3, 4, 5, 40, 44] (S' := [(1, pb b2), (3, pb b9), (4, iv x10), (5, .bool y13), (40, .bool false), (44, .bool true)]) (by (try simp only [hb19]); kernel_rfl) ?_
        refine oP (r := [18, 19, 20, 21, 22]) [17] (S' := [(1, pb b2), (3, pb b9), (4, iv x10), (5, .bool y13), (40, .bool false), (44, .bool true), (45, .pointer (some ⟨b2, 1, none⟩))]) ?_
        refine oC (jY (jL (d := 46) (T := 3) (v := iv a0.ID) (by kernel_rfl) (ldB ty3 (l := c_ApiEvent a0) (o := 1) (v := iv a0.ID) (pick2 _ _ _) (by kernel_rfl))) hI ?_)
        refine oP (r := []) [19, 20, 21, 22] (S' := [(1, pb b2), (3, pb b9), (4, iv x10), (5, .bool y13), (6, .bool (a0.ID == 0))]) ?_
        refine oD ?_
        have e := someS h1
        subst e
        exact jT fun a ha => ⟨a0.ID == 0, rfl, ha.keep [1, 3, 4, 5, 6] (by kernel_rfl), hI⟩
       ·
        rw [if_neg hb19] at h1
        have hb19 : (!(gt y7 0)) = false := by simpa using hb19
        refine OpsT.keep [1, 3, 4, 5, 40, 44] (S' := [(1, pb b2), (3, pb b9), (4, iv x10), (5, .bool y13), (40, .bool false), (44, .bool false)]) (by (try simp only [hb19]); kernel_rfl) ?_
        refine oP (r := []) [17, 18, 19, 20, 21, 22] (S' := [(1, pb b2), (3, pb b9), (4, iv x10), (5, .bool y13), (6, .bool false)]) ?_
        refine oD ?_
        have e := someS h1
        subst e
        exact jT fun a ha => ⟨false, rfl, ha.keep [1, 3, 4, 5, 6] (by kernel_rfl), hI⟩
     ·
      rw [if_neg hb15] at h1
      have hb15 : (gt y7 0) = false := by simpa using hb15
      refine OpsT.keep [1, 3, 4, 5, 30] (S' := [(1, pb b2), (3, pb b9), (4, iv x10), (5, .bool y13), (30, .bool false)]) (by (try simp only [hb15]); kernel_rfl) ?_
      refine oP (r := [14, 15, 16, 17, 18, 19, 20, 21, 22]) [3, 4, 5, 6, 7, 8, 9, 10, 11, 12, 13] (S' := [(1, pb b2), (3, pb b9), (4, iv x10), (5, .bool y13), (40, .bool false), (41, pb b9)]) ?_
      refine oC (jY (jL (d := 42) (T := 4) (v := .bool (gt y7 0)) (by kernel_rfl) (ldB ty4 (l := cA Value.bool y7) (o := 0) (v := .bool (gt y7 0)) (ent_refl _) (arr_getC _ _ 0 hl8 (by kernel_rfl)))) hI ?_)
      refine oP (r := [17, 18, 19, 20, 21, 22]) [15, 16] (S' := [(1, pb b2), (3, pb b9), (4, iv x10), (5, .bool y13), (40, .bool false), (44, .bool (!(gt y7 0)))]) ?_
      by_cases hb20 : (!(gt y7 0)) = true
      ·
       rw [if_pos hb20] at h1
       refine OpsT.keep [1, 3, 4, 5, 40, 44] (S' := [(1, pb b2), (3, pb b9), (4, iv x10), (5, .bool y13), (40, .bool false), (44, .bool true)]) (by (try simp only [hb20]); kernel_rfl) ?_
       refine oP (r := [18, 19, 20, 21, 22]) [17] (S' := [(1, pb b2), (3, pb b9), (4, iv x10), (5, .bool y13), (40, .bool false), (44, .bool true), (45, .pointer (some ⟨b2, 1, none⟩))]) ?_
       refine oC (jY (jL (d := 46) (T := 3) (v := iv a0.ID) (by kernel_rfl) (ldB ty3 (l := c_ApiEvent a0) (o := 1) (v := iv a0.ID) (pick2 _ _ _) (by kernel_rfl))) hI ?_)
       refine oP (r := []) [19, 20, 21, 22] (S' := [(1, pb b2), (3, pb b9), (4, iv x10), (5, .bool y13), (6, .bool (a0.ID == 0))]) ?_
       refine oD ?_
       have e := someS h1
       subst e
       exact jT fun a ha => ⟨a0.ID == 0, rfl, ha.keep [1, 3, 4, 5, 6] (by kernel_rfl), hI⟩
      ·
       rw [if_neg hb20] at h1
       have hb20 : (!(gt y7 0)) = false := by simpa using hb20
       refine OpsT.keep [1, 3, 4, 5, 40, 44] (S' := [(1, pb b2), (3, pb b9), (4, iv x10), (5, .bool y13), (40, .bool false), (44, .bool false)]) (by (try simp only [hb20]); kernel_rfl) ?_
       refine oP (r := []) [17, 18, 19, 20, 21, 22] (S' := [(1, pb b2), (3, pb b9), (4, iv x10), (5, .bool y13), (6, .bool false)]) ?_
       refine oD ?_
       have e := someS h1
       subst e
       exact jT fun a ha => ⟨false, rfl, ha.keep [1, 3, 4, 5, 6] (by kernel_rfl), hI⟩
    ·
     rintro a w ⟨x14, rfl, ha, hI⟩
     try dsimp only at h0
     refine CodT.of ?_ ha
     obtain ⟨r1, h1, h0⟩ := bindS h0
     refine jM (fun a w => ∃ (x21 : Bool), x21 = r1 ∧ Fr 131 [(1, pb b2), (3, pb b9), (4, iv x10), (6, .bool x14), (7, .bool x21)] a ∧ Inv w0 Z w (star (pt b9 (.cells (cA Value.bool y7).toArray 90 (0, 0))) (star (pt b2 (.cells (c_ApiEvent a0).toArray 50 (0, 0))) A))) ?_ ?_
     ·
      refine cR [0, 1, 2, 3, 4, 5, 6, 7, 8, 9, 10, 11, 12, 13, 14, 15] ?_
      refine oP (r := [1, 2, 3, 4, 5, 6, 7, 8, 9, 10, 11, 12, 13, 14, 15]) [0] (S' := [(1, pb b2), (3, pb b9), (4, iv x10), (5, .bool y13), (6, .bool x14), (50, .pointer (some ⟨b9, 1, none⟩))]) ?_
      refine oC (jY (jL (d := 51) (T := 4) (v := .bool (gt y7 1)) (by kernel_rfl) (ldB ty4 (l := cA Value.bool y7) (o := 1) (v := .bool (gt y7 1)) (ent_refl _) (arr_getC _ _ 1 hl8 (by kernel_rfl)))) hI ?_)
      refine oP (r := [3, 4, 5, 6, 7, 8, 9, 10, 11, 12, 13, 14, 15]) [2] (S' := [(1, pb b2), (3, pb b9), (4, iv x10), (5, .bool y13), (6, .bool x14), (52, .bool (gt y7 1))]) ?_
      by_cases hb22 : (gt y7 1) = true
      ·
       rw [if_pos hb22] at h1
       refine OpsT.keep [1, 3, 4, 5, 6, 52] (S' := [(1, pb b2), (3, pb b9), (4, iv x10), (5, .bool y13), (6, .bool x14), (52, .bool true)]) (by (try simp only [hb22]); kernel_rfl) ?_
       refine oP (r := [6, 7, 8, 9, 10, 11, 12, 13, 14, 15]) [3, 4, 5] (S' := [(1, pb b2), (3, pb b9), (4, iv x10), (6, .bool x14), (55, .bool y13)]) ?_
       by_cases hb23 : y13 = true
       ·
        rw [if_pos hb23] at h1
        refine OpsT.keep [1, 3, 4, 6, 55] (S' := [(1, pb b2), (3, pb b9), (4, iv x10), (6, .bool x14), (55, .bool true)]) (by (try simp only [hb23]); kernel_rfl) ?_
        refine oP (r := []) [6, 7, 8, 9, 10, 11, 12, 13, 14, 15] (S' := [(1, pb b2), (3, pb b9), (4, iv x10), (6, .bool x14), (7, .bool true)]) ?_
        refine oD ?_
        have e := someS h1
        subst e
        exact jT fun a ha => ⟨true, rfl, ha.keep [1, 3, 4, 6, 7] (by kernel_rfl), hI⟩
       ·
        rw [if_neg hb23] at h1
        have hb23 : y13 = false := by simpa using hb23
        refine OpsT.keep [1, 3, 4, 6, 55] (S' := [(1, pb b2), (3, pb b9), (4, iv x10), (6, .bool x14), (55, .bool false)]) (by (try simp only [hb23]); kernel_rfl) ?_
        refine oP (r := [7, 8, 9, 10, 11, 12, 13, 14, 15]) [6] (S' := [(1, pb b2), (3, pb b9), (4, iv x10), (6, .bool x14), (55, .bool false), (56, .pointer (some ⟨b9, 1, none⟩))]) ?_
        refine oC (jY (jL (d := 57) (T := 4) (v := .bool (gt y7 1)) (by kernel_rfl) (ldB ty4 (l := cA Value.bool y7) (o := 1) (v := .bool (gt y7 1)) (ent_refl _) (arr_getC _ _ 1 hl8 (by kernel_rfl)))) hI ?_)
        refine oP (r := [10, 11, 12, 13, 14, 15]) [8, 9] (S' := [(1, pb b2), (3, pb b9), (4, iv x10), (6, .bool x14), (55, .bool false), (59, .bool (!(gt y7 1)))]) ?_
        by_cases hb24 : (!(gt y7 1)) = true
        ·
         rw [if_pos hb24] at h1
         refine OpsT.keep [1, 3, 4, 6, 55, 59] (S' := [(1, pb b2), (3, pb b9), (4, iv x10), (6, .bool x14), (55, .bool false), (59, .bool true)]) (by (try simp only [hb24]); kernel_rfl) ?_
         refine oP (r := [11, 12, 13, 14, 15]) [10] (S' := [(1, pb b2), (3, pb b9), (4, iv x10), (6, .bool x14), (55, .bool false), (59, .bool true), (60, .pointer (some ⟨b2, 2, none⟩))]) ?_
         refine oC (jY (jL (d := 61) (T := 9) (v := .string a0.Name) (by kernel_rfl) (ldB ty9 (l := c_ApiEvent a0) (o := 2) (v := .string a0.Name) (pick2 _ _ _) (by kernel_rfl))) hI ?_)
         refine oP (r := []) [12, 13, 14, 15] (S' := [(1, pb b2), (3, pb b9), (4, iv x10), (6, .bool x14), (7, .bool (seq a0.Name q8e))]) ?_
         refine oD ?_
         have e := someS h1
         subst e
         exact jT fun a ha => ⟨seq a0.Name q8e, rfl, ha.keep [1, 3, 4, 6, 7] (by kernel_rfl), hI⟩
        ·
         rw [if_neg hb24] at h1
         have hb24 : (!(gt y7 1)) = false := by simpa using hb24
         refine OpsT.keep [1, 3, 4, 6, 55, 59] (S' := [(1, pb b2), (3, pb b9), (4, iv x10), (6, .bool x14), (55, .bool false), (59, .bool false)]) (by (try simp only [hb24]); kernel_rfl) ?_
         refine oP (r := []) [10, 11, 12, 13, 14, 15] (S' := [(1, pb b2), (3, pb b9), (4, iv x10), (6, .bool x14), (7, .bool false)]) ?_
         refine oD ?_
         have e := someS h1
         subst e
         exact jT fun a ha => ⟨false, rfl, ha.keep [1, 3, 4, 6, 7] (by kernel_rfl), hI⟩
      ·
       rw [if_neg hb22] at h1
       have hb22 : (gt y7 1) = false := by simpa using hb22
       refine OpsT.keep [1, 3, 4, 5, 6, 52] (S' := [(1, pb b2), (3, pb b9), (4, iv x10), (5, .bool y13), (6, .bool x14), (52, .bool false)]) (by (try simp only [hb22]); kernel_rfl) ?_
       refine oP (r := [7, 8, 9, 10, 11, 12, 13, 14, 15]) [3, 4, 5, 6] (S' := [(1, pb b2), (3, pb b9), (4, iv x10), (6, .bool x14), (55, .bool false), (56, .pointer (some ⟨b9, 1, none⟩))]) ?_
       refine oC (jY (jL (d := 57) (T := 4) (v := .bool (gt y7 1)) (by kernel_rfl) (ldB ty4 (l := cA Value.bool y7) (o := 1) (v := .bool (gt y7 1)) (ent_refl _) (arr_getC _ _ 1 hl8 (by kernel_rfl)))) hI ?_)
       refine oP (r := [10, 11, 12, 13, 14, 15]) [8, 9] (S' := [(1, pb b2), (3, pb b9), (4, iv x10), (6, .bool x14), (55, .bool false), (59, .bool (!(gt y7 1)))]) ?_
       by_cases hb25 : (!(gt y7 1)) = true
       ·
        rw [if_pos hb25] at h1
        refine OpsT.keep [1, 3, 4, 6, 55, 59] (S' := [(1, pb b2), (3, pb b9), (4, iv x10), (6, .bool x14), (55, .bool false), (59, .bool true)]) (by (try simp only [hb25]); kernel_rfl) ?_
        refine oP (r := [11, 12, 13, 14, 15]) [10] (S' := [(1, pb b2), (3, pb b9), (4, iv x10), (6, .bool x14), (55, .bool false), (59, .bool true), (60, .pointer (some ⟨b2, 2, none⟩))]) ?_
        refine oC (jY (jL (d := 61) (T := 9) (v := .string a0.Name) (by kernel_rfl) (ldB ty9 (l := c_ApiEvent a0) (o := 2) (v := .string a0.Name) (pick2 _ _ _) (by kernel_rfl))) hI ?_)
        refine oP (r := []) [12, 13, 14, 15] (S' := [(1, pb b2), (3, pb b9), (4, iv x10), (6, .bool x14), (7, .bool (seq a0.Name q8e))]) ?_
        refine oD ?_
        have e := someS h1
        subst e
        exact jT fun a ha => ⟨seq a0.Name q8e, rfl, ha.keep [1, 3, 4, 6, 7] (by kernel_rfl), hI⟩
       ·
        rw [if_neg hb25] at h1
        have hb25 : (!(gt y7 1)) = false := by simpa using hb25
        refine OpsT.keep [1, 3, 4, 6, 55, 59] (S' := [(1, pb b2), (3, pb b9), (4, iv x10), (6, .bool x14), (55, .bool false), (59, .bool false)]) (by (try simp only [hb25]); kernel_rfl) ?_
        refine oP (r := []) [10, 11, 12, 13, 14, 15] (S' := [(1, pb b2), (3, pb b9), (4, iv x10), (6, .bool x14), (7, .bool false)]) ?_
        refine oD ?_
        have e := someS h1
        subst e
        exact jT fun a ha => ⟨false, rfl, ha.keep [1, 3, 4, 6, 7] (by kernel_rfl), hI⟩
     ·
      rintro a w ⟨x21, rfl, ha, hI⟩
      try dsimp only at h0
      refine CodT.of ?_ ha
      obtain ⟨r1, h1, h0⟩ := bindS h0
      refine jM (fun a w => ∃ (x26 : Bool), x26 = r1 ∧ Fr 131 [(1, pb b2), (3, pb b9), (4, iv x10), (6, .bool x14), (7, .bool x21), (8, .bool x26)] a ∧ Inv w0 Z w (star (pt b9 (.cells (cA Value.bool y7).toArray 90 (0, 0))) (star (pt b2 (.cells (c_ApiEvent a0).toArray 50 (0, 0))) A))) ?_ ?_
      ·
       refine cR [0, 1, 2, 3, 4, 5, 6, 7, 8, 9, 10, 11, 12, 13, 14, 15, 16, 17, 18, 19, 20, 21, 22] ?_
       refine oP (r := [1, 2, 3, 4, 5, 6, 7, 8, 9, 10, 11, 12, 13, 14, 15, 16, 17, 18, 19, 20, 21, 22]) [0] (S' := [(1, pb b2), (3, pb b9), (4, iv x10), (6, .bool x14), (7, .bool x21), (65, .pointer (some ⟨b9, 2, none⟩))]) ?_
       refine oC (jY (jL (d := 66) (T := 4) (v := .bool (gt y7 2)) (by kernel_rfl) (ldB ty4 (l := cA Value.bool y7) (o := 2) (v := .bool (gt y7 2)) (ent_refl _) (arr_getC _ _ 2 hl8 (by kernel_rfl)))) hI ?_)
       refine oP (r := [3, 4, 5, 6, 7, 8, 9, 10, 11, 12, 13, 14, 15, 16, 17, 18, 19, 20, 21, 22]) [2] (S' := [(1, pb b2), (3, pb b9), (4, iv x10), (6, .bool x14), (7, .bool x21), (67, .bool (gt y7 2))]) ?_
       by_cases hb27 : (gt y7 2) = true
       ·
        rw [if_pos hb27] at h1
        refine OpsT.keep [1, 3, 4, 6, 7, 67] (S' := [(1, pb b2), (3, pb b9), (4, iv x10), (6, .bool x14), (7, .bool x21), (67, .bool true)]) (by (try simp only [hb27]); kernel_rfl) ?_
        refine oP (r := [4, 5, 6, 7, 8, 9, 10, 11, 12, 13, 14, 15, 16, 17, 18, 19, 20, 21, 22]) [3] (S' := [(1, pb b2), (3, pb b9), (4, iv x10), (6, .bool x14), (7, .bool x21), (67, .bool true), (68, .pointer (some ⟨b2, 3, none⟩))]) ?_
        refine oC (jY (jL (d := 69) (T := 3) (v := iv a0.Time) (by kernel_rfl) (ldB ty3 (l := c_ApiEvent a0) (o := 3) (v := iv a0.Time) (pick2 _ _ _) (by kernel_rfl))) hI ?_)
        refine oP (r := [8, 9, 10, 11, 12, 13, 14, 15, 16, 17, 18, 19, 20, 21, 22]) [5, 6, 7] (S' := [(1, pb b2), (3, pb b9), (4, iv x10), (6, .bool x14), (7, .bool x21), (72, .bool (decide (a0.Time ≥ 0)))]) ?_
        by_cases hb28 : (decide (a0.Time ≥ 0)) = true
        ·
         rw [if_pos hb28] at h1
         refine OpsT.keep [1, 3, 4, 6, 7, 72] (S' := [(1, pb b2), (3, pb b9), (4, iv x10), (6, .bool x14), (7, .bool x21), (72, .bool true)]) (by (try simp only [hb28]); kernel_rfl) ?_
         refine oP (r := [9, 10, 11, 12, 13, 14, 15, 16, 17, 18, 19, 20, 21, 22]) [8] (S' := [(1, pb b2), (3, pb b9), (4, iv x10), (6, .bool x14), (7, .bool x21), (72, .bool true), (73, .pointer (some ⟨b2, 3, none⟩))]) ?_
         refine oC (jY (jL (d := 74) (T := 3) (v := iv a0.Time) (by kernel_rfl) (ldB ty3 (l := c_ApiEvent a0) (o := 3) (v := iv a0.Time) (pick2 _ _ _) (by kernel_rfl))) hI ?_)
         refine oP (r := [13, 14, 15, 16, 17, 18, 19, 20, 21, 22]) [10, 11, 12] (S' := [(1, pb b2), (3, pb b9), (4, iv x10), (6, .bool x14), (7, .bool x21), (77, .bool (decide (a0.Time ≤ 1099511627776)))]) ?_
         by_cases hb29 : (decide (a0.Time ≤ 1099511627776)) = true
         ·
          rw [if_pos hb29] at h1
          refine OpsT.keep [1, 3, 4, 6, 7, 77] (S' := [(1, pb b2), (3, pb b9), (4, iv x10), (6, .bool x14), (7, .bool x21), (77, .bool true)]) (by (try simp only [hb29]); kernel_rfl) ?_
          refine oP (r := []) [13, 14, 15, 16, 17, 18, 19, 20, 21, 22] (S' := [(1, pb b2), (3, pb b9), (4, iv x10), (6, .bool x14), (7, .bool x21), (8, .bool true)]) ?_
          refine oD ?_
          have e := someS h1
          subst e
          exact jT fun a ha => ⟨true, rfl, ha.keep [1, 3, 4, 6, 7, 8] (by kernel_rfl), hI⟩
         ·
          rw [if_neg hb29] at h1
          have hb29 : (decide (a0.Time ≤ 1099511627776)) = false := by simpa using hb29
          refine OpsT.keep [1, 3, 4, 6, 7, 77] (S' := [(1, pb b2), (3, pb b9), (4, iv x10), (6, .bool x14), (7, .bool x21), (77, .bool false)]) (by (try simp only [hb29]); kernel_rfl) ?_
          refine oP (r := [14, 15, 16, 17, 18, 19, 20, 21, 22]) [13] (S' := [(1, pb b2), (3, pb b9), (4, iv x10), (6, .bool x14), (7, .bool x21), (77, .bool false), (78, .pointer (some ⟨b9, 2, none⟩))]) ?_
          refine oC (jY (jL (d := 79) (T := 4) (v := .bool (gt y7 2)) (by kernel_rfl) (ldB ty4 (l := cA Value.bool y7) (o := 2) (v := .bool (gt y7 2)) (ent_refl _) (arr_getC _ _ 2 hl8 (by kernel_rfl)))) hI ?_)
          refine oP (r := [17, 18, 19, 20, 21, 22]) [15, 16] (S' := [(1, pb b2), (3, pb b9), (4, iv x10), (6, .bool x14), (7, .bool x21), (77, .bool false), (81, .bool (!(gt y7 2)))]) ?_
          by_cases hb30 : (!(gt y7 2)) = true
          ·
           rw [if_pos hb30] at h1
           refine OpsT.keep [1, 3, 4, 6, 7, 77, 81] (S' := [(1, pb b2), (3, pb b9), (4, iv x10), (6, .bool x14), (7, .bool x21), (77, .bool false), (81, .bool true)]) (by (try simp only [hb30]); kernel_rfl) ?_
           refine oP (r := [18, 19, 20, 21, 22]) [17] (S' := [(1, pb b2), (3, pb b9), (4, iv x10), (6, .bool x14), (7, .bool x21), (77, .bool false), (81, .bool true), (82, .pointer (some ⟨b2, 3, none⟩))]) ?_
           refine oC (jY (jL (d := 83) (T := 3) (v := iv a0.Time) (by kernel_rfl) (ldB ty3 (l := c_ApiEvent a0) (o := 3) (v := iv a0.Time) (pick2 _ _ _) (by kernel_rfl))) hI ?_)
           refine oP (r := []) [19, 20, 21, 22] (S' := [(1, pb b2), (3, pb b9), (4, iv x10), (6, .bool x14), (7, .bool x21), (8, .bool (a0.Time == 0))]) ?_
           refine oD ?_
           have e := someS h1
           subst e
           exact jT fun a ha => ⟨a0.Time == 0, rfl, ha.keep [1, 3, 4, 6, 7, 8] (by kernel_rfl), hI⟩
          ·
           rw [if_neg hb30] at h1
           have hb30 : (!(gt y7 2)) = false := by simpa using hb30
           refine OpsT.keep [1, 3, 4, 6, 7, 77, 81] (S' := [(1, pb b2), (3, pb b9), (4, iv x10), (6, .bool x14), (7, .bool x21), (77, .bool false), (81, .bool false)]) (by (try simp only [hb30]); kernel_rfl) ?_
           refine oP (r := []) [17, 18, 19, 20, 21, 22] (S' := [(1, pb b2), (3, pb b9), (4, iv x10), (6, .bool x14), (7, .bool x21), (8, .bool false)]) ?_
           refine oD ?_
           have e := someS h1
           subst e
           exact jT fun a ha => ⟨false, rfl, ha.keep [1, 3, 4, 6, 7, 8] (by kernel_rfl), hI⟩
        ·
         rw [if_neg hb28] at h1
         have hb28 : (decide (a0.Time ≥ 0)) = false := by simpa using hb28
         refine OpsT.keep [1, 3, 4, 6, 7, 72] (S' := [(1, pb b2), (3, pb b9), (4, iv x10), (6, .bool x14), (7, .bool x21), (72, .bool false)]) (by (try simp only [hb28]); kernel_rfl) ?_
         refine oP (r := [14, 15, 16, 17, 18, 19, 20, 21, 22]) [8, 9, 10, 11, 12, 13] (S' := [(1, pb b2), (3, pb b9), (4, iv x10), (6, .bool x14), (7, .bool x21), (77, .bool false), (78, .pointer (some ⟨b9, 2, none⟩))]) ?_
         refine oC (jY (jL (d := 79) (T := 4) (v := .bool (gt y7 2)) (by kernel_rfl) (ldB ty4 (l := cA Value.bool y7) (o := 2) (v := .bool (gt y7 2)) (ent_refl _) (arr_getC _ _ 2 hl8 (by kernel_rfl)))) hI ?_)
         refine oP (r := [17, 18, 19, 20, 21, 22]) [15, 16] (S' := [(1, pb b2), (3, pb b9), (4, iv x10), (6, .bool x14), (7, .bool x21), (77, .bool false), (81, .bool (!(gt y7 2)))]) ?_
         by_cases hb31 : (!(gt y7 2)) = true
         ·
          rw [if_pos hb31] at h1
          refine OpsT.keep [1, 3, 4, 6, 7, 77, 81] (S' := [(1, pb b2), (3, pb b9), (4, iv x10), (6, .bool x14), (7, .bool x21), (77, .bool false), (81, .bool true)]) (by (try simp only [hb31]); kernel_rfl) ?_
          refine oP (r := [18, 19, 20, 21, 22]) [17] (S' := [(1, pb b2), (3, pb b9), (4, iv x10), (6, .bool x14), (7, .bool x21), (77, .bool false), (81, .bool true), (82, .pointer (some ⟨b2, 3, none⟩))]) ?_
          refine oC (jY (jL (d := 83) (T := 3) (v := iv a0.Time) (by kernel_rfl) (ldB ty3 (l := c_ApiEvent a0) (o := 3) (v := iv a0.Time) (pick2 _ _ _) (by kernel_rfl))) hI ?_)
          refine oP (r := []) [19, 20, 21, 22] (S' := [(1, pb b2), (3, pb b9), (4, iv x10), (6, .bool x14), (7, .bool x21), (8, .bool (a0.Time == 0))]) ?_
          refine oD ?_
          have e := someS h1
          subst e
          exact jT fun a ha => ⟨a0.Time == 0, rfl, ha.keep [1, 3, 4, 6, 7, 8] (by kernel_rfl), hI⟩
         ·
          rw [if_neg hb31] at h1
          have hb31 : (!(gt y7 2)) = false := by simpa using hb31
          refine OpsT.keep [1, 3, 4, 6, 7, 77, 81] (S' := [(1, pb b2), (3, pb b9), (4, iv x10), (6, .bool x14), (7, .bool x21), (77, .bool false), (81, .bool false)]) (by (try simp only [hb31]); kernel_rfl) ?_
          refine oP (r := []) [17, 18, 19, 20, 21, 22] (S' := [(1, pb b2), (3, pb b9), (4, iv x10), (6, .bool x14), (7, .bool x21), (8, .bool false)]) ?_
          refine oD ?_
          have e := someS h1
          subst e
          exact jT fun a ha => ⟨false, rfl, ha.keep [1, 3, 4, 6, 7, 8] (by kernel_rfl), hI⟩
       ·
        rw [if_neg hb27] at h1
        have hb27 : (gt y7 2) = false := by simpa using hb27
        refine OpsT.keep [1, 3, 4, 6, 7, 67] (S' := [(1, pb b2), (3, pb b9), (4, iv x10), (6, .bool x14), (7, .bool x21), (67, .bool false)]) (by (try simp only [hb27]); kernel_rfl) ?_
        refine oP (r := [14, 15, 16, 17, 18, 19, 20, 21, 22]) [3, 4, 5, 6, 7, 8, 9, 10, 11, 12, 13] (S' := [(1, pb b2), (3, pb b9), (4, iv x10), (6, .bool x14), (7, .bool x21), (77, .bool false), (78, .pointer (some ⟨b9, 2, none⟩))]) ?_
        refine oC (jY (jL (d := 79) (T := 4) (v := .bool (gt y7 2)) (by kernel_rfl) (ldB ty4 (l := cA Value.bool y7) (o := 2) (v := .bool (gt y7 2)) (ent_refl _) (arr_getC _ _ 2 hl8 (by kernel_rfl)))) hI ?_)
        refine oP (r := [17, 18, 19, 20, 21, 22]) [15, 16] (S' := [(1, pb b2), (3, pb b9), (4, iv x10), (6, .bool x14), (7, .bool x21), (77, .bool false), (81, .bool (!(gt y7 2)))]) ?_
        by_cases hb32 : (!(gt y7 2)) = true
        ·
         rw [if_pos hb32] at h1
         refine OpsT.keep [1, 3, 4, 6, 7, 77, 81] (S' := [(1, pb b2), (3, pb b9), (4, iv x10), (6, .bool x14), (7, .bool x21), (77, .bool false), (81, .bool true)]) (by (try simp only [hb32]); kernel_rfl) ?_
         refine oP (r := [18, 19, 20, 21, 22]) [17] (S' := [(1, pb b2), (3, pb b9), (4, iv x10), (6, .bool x14), (7, .bool x21), (77, .bool false), (81, .bool true), (82, .pointer (some ⟨b2, 3, none⟩))]) ?_
         refine oC (jY (jL (d := 83) (T := 3) (v := iv a0.Time) (by kernel_rfl) (ldB ty3 (l := c_ApiEvent a0) (o := 3) (v := iv a0.Time) (pick2 _ _ _) (by kernel_rfl))) hI ?_)
         refine oP (r := []) [19, 20, 21, 22] (S' := [(1, pb b2), (3, pb b9), (4, iv x10), (6, .bool x14), (7, .bool x21), (8, .bool (a0.Time == 0))]) ?_
         refine oD ?_
         have e := someS h1
         subst e
         exact jT fun a ha => ⟨a0.Time == 0, rfl, ha.keep [1, 3, 4, 6, 7, 8] (by kernel_rfl), hI⟩
        ·
         rw [if_neg hb32] at h1
         have hb32 : (!(gt y7 2)) = false := by simpa using hb32
         refine OpsT.keep [1, 3, 4, 6, 7, 77, 81] (S' := [(1, pb b2), (3, pb b9), (4, iv x10), (6, .bool x14), (7, .bool x21), (77, .bool false), (81, .bool false)]) (by (try simp only [hb32]); kernel_rfl) ?_
         refine oP (r := []) [17, 18, 19, 20, 21, 22] (S' := [(1, pb b2), (3, pb b9), (4, iv x10), (6, .bool x14), (7, .bool x21), (8, .bool false)]) ?_
         refine oD ?_
         have e := someS h1
         subst e
         exact jT fun a ha => ⟨false, rfl, ha.keep [1, 3, 4, 6, 7, 8] (by kernel_rfl), hI⟩
      ·
       rintro a w ⟨x26, rfl, ha, hI⟩
       try dsimp only at h0
       refine CodT.of ?_ ha
       obtain ⟨r1, h1, h0⟩ := bindS h0
       refine jM (fun a w => ∃ (x33 : Bool), x33 = r1 ∧ Fr 131 [(1, pb b2), (3, pb b9), (6, .bool x14), (7, .bool x21), (8, .bool x26), (9, .bool x33)] a ∧ Inv w0 Z w (star (pt b9 (.cells (cA Value.bool y7).toArray 90 (0, 0))) (star (pt b2 (.cells (c_ApiEvent a0).toArray 50 (0, 0))) A))) ?_ ?_
       ·
        refine cR [0, 1, 2, 3, 4, 5, 6, 7, 8, 9, 10, 11, 12, 13, 14, 15, 16, 17, 18, 19, 20, 21, 22, 23] ?_
        refine oP (r := [1, 2, 3, 4, 5, 6, 7, 8, 9, 10, 11, 12, 13, 14, 15, 16, 17, 18, 19, 20, 21, 22, 23]) [0] (S' := [(1, pb b2), (3, pb b9), (4, iv x10), (6, .bool x14), (7, .bool x21), (8, .bool x26), (87, .pointer (some ⟨b9, 3, none⟩))]) ?_
        refine oC (jY (jL (d := 88) (T := 4) (v := .bool (gt y7 3)) (by kernel_rfl) (ldB ty4 (l := cA Value.bool y7) (o := 3) (v := .bool (gt y7 3)) (ent_refl _) (arr_getC _ _ 3 hl8 (by kernel_rfl)))) hI ?_)
        refine oP (r := [3, 4, 5, 6, 7, 8, 9, 10, 11, 12, 13, 14, 15, 16, 17, 18, 19, 20, 21, 22, 23]) [2] (S' := [(1, pb b2), (3, pb b9), (4, iv x10), (6, .bool x14), (7, .bool x21), (8, .bool x26), (89, .bool (gt y7 3))]) ?_
        by_cases hb34 : (gt y7 3) = true
        ·
         rw [if_pos hb34] at h1
         refine OpsT.keep [1, 3, 4, 6, 7, 8, 89] (S' := [(1, pb b2), (3, pb b9), (4, iv x10), (6, .bool x14), (7, .bool x21), (8, .bool x26), (89, .bool true)]) (by (try simp only [hb34]); kernel_rfl) ?_
         refine oP (r := [4, 5, 6, 7, 8, 9, 10, 11, 12, 13, 14, 15, 16, 17, 18, 19, 20, 21, 22, 23]) [3] (S' := [(1, pb b2), (3, pb b9), (4, iv x10), (6, .bool x14), (7, .bool x21), (8, .bool x26), (89, .bool true), (90, .pointer (some ⟨b2, 4, none⟩))]) ?_
         refine oC (jY (jL (d := 91) (T := 3) (v := iv a0.Len) (by kernel_rfl) (ldB ty3 (l := c_ApiEvent a0) (o := 4) (v := iv a0.Len) (pick2 _ _ _) (by kernel_rfl))) hI ?_)
         refine oP (r := [9, 10, 11, 12, 13, 14, 15, 16, 17, 18, 19, 20, 21, 22, 23]) [5, 6, 7, 8] (S' := [(1, pb b2), (3, pb b9), (6, .bool x14), (7, .bool x21), (8, .bool x26), (95, .bool (decide (a0.Len ≥ x10)))]) ?_
         by_cases hb35 : (decide (a0.Len ≥ x10)) = true
         ·
          rw [if_pos hb35] at h1
          refine OpsT.keep [1, 3, 6, 7, 8, 95] (S' := [(1, pb b2), (3, pb b9), (6, .bool x14), (7, .bool x21), (8, .bool x26), (95, .bool true)]) (by (try simp only [hb35]); kernel_rfl) ?_
          refine oP (r := [10, 11, 12, 13, 14, 15, 16, 17, 18, 19, 20, 21, 22, 23]) [9] (S' := [(1, pb b2), (3, pb b9), (6, .bool x14), (7, .bool x21), (8, .bool x26), (95, .bool true), (96, .pointer (some ⟨b2, 4, none⟩))]) ?_
          refine oC (jY (jL (d := 97) (T := 3) (v := iv a0.Len) (by kernel_rfl) (ldB ty3 (l := c_ApiEvent a0) (o := 4) (v := iv a0.Len) (pick2 _ _ _) (by kernel_rfl))) hI ?_)
          refine oP (r := [14, 15, 16, 17, 18, 19, 20, 21, 22, 23]) [11, 12, 13] (S' := [(1, pb b2), (3, pb b9), (6, .bool x14), (7, .bool x21), (8, .bool x26), (100, .bool (decide (a0.Len ≤ 600)))]) ?_
          by_cases hb36 : (decide (a0.Len ≤ 600)) = true
          ·
           rw [if_pos hb36] at h1
           refine OpsT.keep [1, 3, 6, 7, 8, 100] (S' := [(1, pb b2), (3, pb b9), (6, .bool x14), (7, .bool x21), (8, .bool x26), (100, .bool true)]) (by (try simp only [hb36]); kernel_rfl) ?_
           refine oP (r := []) [14, 15, 16, 17, 18, 19, 20, 21, 22, 23] (S' := [(1, pb b2), (3, pb b9), (6, .bool x14), (7, .bool x21), (8, .bool x26), (9, .bool true)]) ?_
           refine oD ?_
           have e := someS h1
           subst e
           exact jT fun a ha => ⟨true, rfl, ha.keep [1, 3, 6, 7, 8, 9] (by kernel_rfl), hI⟩
          ·
           rw [if_neg hb36] at h1
           have hb36 : (decide (a0.Len ≤ 600)) = false := by simpa using hb36
           refine OpsT.keep [1, 3, 6, 7, 8, 100] (S' := [(1, pb b2), (3, pb b9), (6, .bool x14), (7, .bool x21), (8, .bool x26), (100, .bool false)]) (by (try simp only [hb36]); kernel_rfl) ?_
           refine oP (r := [15, 16, 17, 18, 19, 20, 21, 22, 23]) [14] (S' := [(1, pb b2), (3, pb b9), (6, .bool x14), (7, .bool x21), (8, .bool x26), (100, .bool false), (101, .pointer (some ⟨b9, 3, none⟩))]) ?_
           refine oC (jY (jL (d := 102) (T := 4) (v := .bool (gt y7 3)) (by kernel_rfl) (ldB ty4 (l := cA Value.bool y7) (o := 3) (v := .bool (gt y7 3)) (ent_refl _) (arr_getC _ _ 3 hl8 (by kernel_rfl)))) hI ?_)
           refine oP (r := [18, 19, 20, 21, 22, 23]) [16, 17] (S' := [(1, pb b2), (3, pb b9), (6, .bool x14), (7, .bool x21), (8, .bool x26), (100, .bool false), (104, .bool (!(gt y7 3)))]) ?_
           by_cases hb37 : (!(gt y7 3)) = true
           ·
            rw [if_pos hb37] at h1
            refine OpsT.keep [1, 3, 6, 7, 8, 100, 104] (S' := [(1, pb b2), (3, pb b9), (6, .bool x14), (7, .bool x21), (8, .bool x26), (100, .bool false), (104, .bool true)]) (by (try simp only [hb37]); kernel_rfl) ?_
            refine oP (r := [19, 20, 21, 22, 23]) [18] (S' := [(1, pb b2), (3, pb b9), (6, .bool x14), (7, .bool x21), (8, .bool x26), (100, .bool false), (104, .bool true), (105, .pointer (some ⟨b2, 4, none⟩))]) ?_
            refine oC (jY (jL (d := 106) (T := 3) (v := iv a0.Len) (by kernel_rfl) (ldB ty3 (l := c_ApiEvent a0) (o := 4) (v := iv a0.Len) (pick2 _ _ _) (by kernel_rfl))) hI ?_)
            refine oP (r := []) [20, 21, 22, 23] (S' := [(1, pb b2), (3, pb b9), (6, .bool x14), (7, .bool x21), (8, .bool x26), (9, .bool (a0.Len == 0))]) ?_
            refine oD ?_
            have e := someS h1
            subst e
            exact jT fun a ha => ⟨a0.Len == 0, rfl, ha.keep [1, 3, 6, 7, 8, 9] (by kernel_rfl), hI⟩
           ·
            rw [if_neg hb37] at h1
            have hb37 : (!(gt y7 3)) = false := by simpa using hb37
            refine OpsT.keep [1, 3, 6, 7, 8, 100, 104] (S' := [(1, pb b2), (3, pb b9), (6, .bool x14), (7, .bool x21), (8, .bool x26), (100, .bool false), (104, .bool false)]) (by (try simp only [hb37]); kernel_rfl) ?_
            refine oP (r := []) [18, 19, 20, 21, 22, 23] (S' := [(1, pb b2), (3, pb b9), (6, .bool x14), (7, .bool x21), (8, .bool x26), (9, .bool false)]) ?_
            refine oD ?_
            have e := someS h1
            subst e
            exact jT fun a ha => ⟨false, rfl, ha.keep [1, 3, 6, 7, 8, 9] (by kernel_rfl), hI⟩
         ·
          rw [if_neg hb35] at h1
          have hb35 : (decide (a0.Len ≥ x10)) = false := by simpa using hb35
          refine OpsT.keep [1, 3, 6, 7, 8, 95] (S' := [(1, pb b2), (3, pb b9), (6, .bool x14), (7, .bool x21), (8, .bool x26), (95, .bool false)]) (by (try simp only [hb35]); kernel_rfl) ?_
          refine oP (r := [15, 16, 17, 18, 19, 20, 21, 22, 23]) [9, 10, 11, 12, 13, 14] (S' := [(1, pb b2), (3, pb b9), (6, .bool x14), (7, .bool x21), (8, .bool x26), (100, .bool false), (101, .pointer (some ⟨b9, 3, none⟩))]) ?_
          refine oC (jY (jL (d := 102) (T := 4) (v := .bool (gt y7 3)) (by kernel_rfl) (ldB ty4 (l := cA Value.bool y7) (o := 3) (v := .bool (gt y7 3)) (ent_refl _) (arr_getC _ _ 3 hl8 (by kernel_rfl)))) hI ?_)
          refine oP (r := [18, 19, 20, 21, 22, 23]) [16, 17] (S' := [(1, pb b2), (3, pb b9), (6, .bool x14), (7, .bool x21), (8, .bool x26), (100, .bool false), (104, .bool (!(gt y7 3)))]) ?_
          by_cases hb38 : (!(gt y7 3)) = true
          ·
           rw [if_pos hb38] at h1
           refine OpsT.keep [1, 3, 6, 7, 8, 100, 104] (S' := [(1, pb b2), (3, pb b9), (6, .bool x14), (7, .bool x21), (8, .bool x26), (100, .bool false), (104, .bool true)]) (by (try simp only [hb38]); kernel_rfl) ?_
           refine oP (r := [19, 20, 21, 22, 23]) [18] (S' := [(1, pb b2), (3, pb b9), (6, .bool x14), (7, .bool x21), (8, .bool x26), (100, .bool false), (104, .bool true), (105, .pointer (some ⟨b2, 4, none⟩))]) ?_
           refine oC (jY (jL (d := 106) (T := 3) (v := iv a0.Len) (by kernel_rfl) (ldB ty3 (l := c_ApiEvent a0) (o := 4) (v := iv a0.Len) (pick2 _ _ _) (by kernel_rfl))) hI ?_)
           refine oP (r := []) [20, 21, 22, 23] (S' := [(1, pb b2), (3, pb b9), (6, .bool x14), (7, .bool x21), (8, .bool x26), (9, .bool (a0.Len == 0))]) ?_
           refine oD ?_
           have e := someS h1
           subst e
           exact jT fun a ha => ⟨a0.Len == 0, rfl, ha.keep [1, 3, 6, 7, 8, 9] (by kernel_rfl), hI⟩
          ·
           rw [if_neg hb38] at h1
           have hb38 : (!(gt y7 3)) = false := by simpa using hb38
           refine OpsT.keep [1, 3, 6, 7, 8, 100, 104] (S' := [(1, pb b2), (3, pb b9), (6, .bool x14), (7, .bool x21), (8, .bool x26), (100, .bool false), (104, .bool false)]) (by (try simp only [hb38]); kernel_rfl) ?_
           refine oP (r := []) [18, 19, 20, 21, 22, 23] (S' := [(1, pb b2), (3, pb b9), (6, .bool x14), (7, .bool x21), (8, .bool x26), (9, .bool false)]) ?_
           refine oD ?_
           have e := someS h1
           subst e
           exact jT fun a ha => ⟨false, rfl, ha.keep [1, 3, 6, 7, 8, 9] (by kernel_rfl), hI⟩
        ·
         rw [if_neg hb34] at h1
         have hb34 : (gt y7 3) = false := by simpa using hb34
         refine OpsT.keep [1, 3, 4, 6, 7, 8, 89] (S' := [(1, pb b2), (3, pb b9), (4, iv x10), (6, .bool x14), (7, .bool x21), (8, .bool x26), (89, .bool false)]) (by (try simp only [hb34]); kernel_rfl) ?_
         refine oP (r := [15, 16, 17, 18, 19, 20, 21, 22, 23]) [3, 4, 5, 6, 7, 8, 9, 10, 11, 12, 13, 14] (S' := [(1, pb b2), (3, pb b9), (6, .bool x14), (7, .bool x21), (8, .bool x26), (100, .bool false), (101, .pointer (some ⟨b9, 3, none⟩))]) ?_
         refine oC (jY (jL (d := 102) (T := 4) (v := .bool (gt y7 3)) (by kernel_rfl) (ldB ty4 (l := cA Value.bool y7) (o := 3) (v := .bool (gt y7 3)) (ent_refl _) (arr_getC _ _ 3 hl8 (by kernel_rfl)))) hI ?_)
         refine oP (r := [18, 19, 20, 21, 22, 23]) [16, 17] (S' := [(1, pb b2), (3, pb b9), (6, .bool x14), (7, .bool x21), (8, .bool x26), (100, .bool false), (104, .bool (!(gt y7 3)))]) ?_
         by_cases hb39 : (!(gt y7 3)) = true
         ·
          rw [if_pos hb39] at h1
          refine OpsT.keep [1, 3, 6, 7, 8, 100, 104] (S' := [(1, pb b2), (3, pb b9), (6, .bool x14), (7, .bool x21), (8, .bool x26), (100, .bool false), (104, .bool true)]) (by (try simp only [hb39]); kernel_rfl) ?_
          refine oP (r := [19, 20, 21, 22, 23]) [18] (S' := [(1, pb b2), (3, pb b9), (6, .bool x14), (7, .bool x21), (8, .bool x26), (100, .bool false), (104, .bool true), (105, .pointer (some ⟨b2, 4, none⟩))]) ?_
          refine oC (jY (jL (d := 106) (T := 3) (v := iv a0.Len) (by kernel_rfl) (ldB ty3 (l := c_ApiEvent a0) (o := 4) (v := iv a0.Len) (pick2 _ _ _) (by kernel_rfl))) hI ?_)
          refine oP (r := []) [20, 21, 22, 23] (S' := [(1, pb b2), (3, pb b9), (6, .bool x14), (7, .bool x21), (8, .bool x26), (9, .bool (a0.Len == 0))]) ?_
          refine oD ?_
          have e := someS h1
          subst e
          exact jT fun a ha => ⟨a0.Len == 0, rfl, ha.keep [1, 3, 6, 7, 8, 9] (by kernel_rfl), hI⟩
         ·
          rw [if_neg hb39] at h1
          have hb39 : (!(gt y7 3)) = false := by simpa using hb39
          refine OpsT.keep [1, 3, 6, 7, 8, 100, 104] (S' := [(1, pb b2), (3, pb b9), (6, .bool x14), (7, .bool x21), (8, .bool x26), (100, .bool false), (104, .bool false)]) (by (try simp only [hb39]); kernel_rfl) ?_
          refine oP (r := []) [18, 19, 20, 21, 22, 23] (S' := [(1, pb b2), (3, pb b9), (6, .bool x14), (7, .bool x21), (8, .bool x26), (9, .bool false)]) ?_
          refine oD ?_
          have e := someS h1
          subst e
          exact jT fun a ha => ⟨false, rfl, ha.keep [1, 3, 6, 7, 8, 9] (by kernel_rfl), hI⟩
       ·
        rintro a w ⟨x33, rfl, ha, hI⟩
        try dsimp only at h0
        refine CodT.of ?_ ha
        obtain ⟨r1, h1, h0⟩ := bindS h0
        refine jM (fun a w => ∃ (x40 : Bool), x40 = r1 ∧ Fr 131 [(6, .bool x14), (7, .bool x21), (8, .bool x26), (9, .bool x33), (10, .bool x40)] a ∧ Inv w0 Z w A) ?_ ?_
        ·
         refine cR [0, 1, 2, 3, 4, 5, 6, 7, 8] ?_
         refine oP (r := [1, 2, 3, 4, 5, 6, 7, 8]) [0] (S' := [(1, pb b2), (6, .bool x14), (7, .bool x21), (8, .bool x26), (9, .bool x33), (110, .pointer (some ⟨b9, 4, none⟩))]) ?_
         refine oC (jY (jL (d := 111) (T := 4) (v := .bool (gt y7 4)) (by kernel_rfl) (ldB ty4 (l := cA Value.bool y7) (o := 4) (v := .bool (gt y7 4)) (ent_refl _) (arr_getC _ _ 4 hl8 (by kernel_rfl)))) hI ?_)
         refine oP (r := [3, 4, 5, 6, 7, 8]) [2] (S' := [(1, pb b2), (6, .bool x14), (7, .bool x21), (8, .bool x26), (9, .bool x33), (112, .bool (gt y7 4))]) ?_
         by_cases hb41 : (gt y7 4) = true
         ·
          rw [if_pos hb41] at h1
          refine OpsT.keep [1, 6, 7, 8, 9, 112] (S' := [(1, pb b2), (6, .bool x14), (7, .bool x21), (8, .bool x26), (9, .bool x33), (112, .bool true)]) (by (try simp only [hb41]); kernel_rfl) ?_
          refine oP (r := []) [3, 4, 5, 6, 7, 8] (S' := [(6, .bool x14), (7, .bool x21), (8, .bool x26), (9, .bool x33), (10, .bool true)]) ?_
          refine oD ?_
          have hI := hI.drop
          have hI := hI.drop
          have e := someS h1
          subst e
          exact jT fun a ha => ⟨true, rfl, ha.keep [6, 7, 8, 9, 10] (by kernel_rfl), hI⟩
         ·
          rw [if_neg hb41] at h1
          have hb41 : (gt y7 4) = false := by simpa using hb41
          refine OpsT.keep [1, 6, 7, 8, 9, 112] (S' := [(1, pb b2), (6, .bool x14), (7, .bool x21), (8, .bool x26), (9, .bool x33), (112, .bool false)]) (by (try simp only [hb41]); kernel_rfl) ?_
          refine oP (r := [4, 5, 6, 7, 8]) [3] (S' := [(6, .bool x14), (7, .bool x21), (8, .bool x26), (9, .bool x33), (112, .bool false), (113, .pointer (some ⟨b2, 5, none⟩))]) ?_
          refine oC (jY (jL (d := 114) (T := 23) (v := .agg (q8c a0.Sum).toArray) (by kernel_rfl) (ldBN ty23 (l := c_ApiEvent a0) (o := 5) (cs := cA (Value.int .u8) a0.Sum) (pick2 _ _ _) ((cA_length _ _).trans hl1) (tail_take _ _ _ _ _ (by kernel_rfl) hl1))) hI ?_)
          refine oP (r := [6, 7, 8]) [5] (S' := [(6, .bool x14), (7, .bool x21), (8, .bool x26), (9, .bool x33), (112, .bool false), (114, .agg (q8c a0.Sum).toArray), (115, .agg (q8c ([0, 0, 0, 0, 0, 0, 0, 0, 0, 0, 0, 0, 0, 0, 0, 0, 0, 0, 0, 0, 0, 0, 0, 0, 0, 0, 0, 0, 0, 0, 0, 0] : List Int)).toArray)]) ?_
          refine oC (jY (Yl.eqlA (k := .u8) (d := 116) (T := 23) (xs := a0.Sum) (ys := ([0, 0, 0, 0, 0, 0, 0, 0, 0, 0, 0, 0, 0, 0, 0, 0, 0, 0, 0, 0, 0, 0, 0, 0, 0, 0, 0, 0, 0, 0, 0, 0] : List Int)) (by kernel_rfl) Go.Proofs.Tryz.underlying23 (by kernel_rfl) Go.Proofs.Tryz.underlying5 ty5 hl1 (by kernel_rfl)) hI ?_)
          refine oP (r := []) [7, 8] (S' := [(6, .bool x14), (7, .bool x21), (8, .bool x26), (9, .bool x33), (10, .bool (eqA a0.Sum ([0, 0, 0, 0, 0, 0, 0, 0, 0, 0, 0, 0, 0, 0, 0, 0, 0, 0, 0, 0, 0, 0, 0, 0, 0, 0, 0, 0, 0, 0, 0, 0] : List Int)))]) ?_
          refine oD ?_
          have hI := hI.drop
          have hI := hI.drop
          have e := someS h1
          subst e
          exact jT fun a ha => ⟨eqA a0.Sum ([0, 0, 0, 0, 0, 0, 0, 0, 0, 0, 0, 0, 0, 0, 0, 0, 0, 0, 0, 0, 0, 0, 0, 0, 0, 0, 0, 0, 0, 0, 0, 0] : List Int), rfl, ha.keep [6, 7, 8, 9, 10] (by kernel_rfl), hI⟩
        ·
         rintro a w ⟨x40, rfl, ha, hI⟩
         try dsimp only at h0
         refine CodT.of ?_ ha
         obtain ⟨r1, h1, h0⟩ := bindS h0
         refine jM (fun a w => ∃ (x42 : Bool), x42 = r1 ∧ Fr 131 [(2, .bool x42)] a ∧ Inv w0 Z w A) ?_ ?_
         ·
          refine cR [0, 1, 2, 3, 4, 5, 6, 7, 8, 9, 10, 11, 12, 13] ?_
          refine oP (r := [2, 3, 4, 5, 6, 7, 8, 9, 10, 11, 12, 13]) [0, 1] (S' := [(7, .bool x21), (8, .bool x26), (9, .bool x33), (10, .bool x40), (119, .bool x14)]) ?_
          by_cases hb43 : x14 = true
          ·
           rw [if_pos hb43] at h1
           refine OpsT.keep [7, 8, 9, 10, 119] (S' := [(7, .bool x21), (8, .bool x26), (9, .bool x33), (10, .bool x40), (119, .bool true)]) (by (try simp only [hb43]); kernel_rfl) ?_
           refine oP (r := [5, 6, 7, 8, 9, 10, 11, 12, 13]) [2, 3, 4] (S' := [(8, .bool x26), (9, .bool x33), (10, .bool x40), (122, .bool x21)]) ?_
           by_cases hb44 : x21 = true
           ·
            rw [if_pos hb44] at h1
            refine OpsT.keep [8, 9, 10, 122] (S' := [(8, .bool x26), (9, .bool x33), (10, .bool x40), (122, .bool true)]) (by (try simp only [hb44]); kernel_rfl) ?_
            refine oP (r := [8, 9, 10, 11, 12, 13]) [5, 6, 7] (S' := [(9, .bool x33), (10, .bool x40), (125, .bool x26)]) ?_
            by_cases hb45 : x26 = true
            ·
             rw [if_pos hb45] at h1
             refine OpsT.keep [9, 10, 125] (S' := [(9, .bool x33), (10, .bool x40), (125, .bool true)]) (by (try simp only [hb45]); kernel_rfl) ?_
             refine oP (r := [11, 12, 13]) [8, 9, 10] (S' := [(10, .bool x40), (128, .bool x33)]) ?_
             by_cases hb46 : x33 = true
             ·
              rw [if_pos hb46] at h1
              refine OpsT.keep [10, 128] (S' := [(10, .bool x40), (128, .bool true)]) (by (try simp only [hb46]); kernel_rfl) ?_
              refine oP (r := []) [11, 12, 13] (S' := [(2, .bool x40)]) ?_
              refine oD ?_
              have e := someS h1
              subst e
              exact jT fun a ha => ⟨x40, rfl, ha.keep [2] (by kernel_rfl), hI⟩
             ·
              rw [if_neg hb46] at h1
              have hb46 : x33 = false := by simpa using hb46
              refine OpsT.keep [10, 128] (S' := [(10, .bool x40), (128, .bool false)]) (by (try simp only [hb46]); kernel_rfl) ?_
              refine oP (r := []) [11, 12, 13] (S' := [(2, .bool false)]) ?_
              refine oD ?_
              have e := someS h1
              subst e
              exact jT fun a ha => ⟨false, rfl, ha.keep [2] (by kernel_rfl), hI⟩
            ·
             rw [if_neg hb45] at h1
             have hb45 : x26 = false := by simpa using hb45
             refine OpsT.keep [9, 10, 125] (S' := [(9, .bool x33), (10, .bool x40), (125, .bool false)]) (by (try simp only [hb45]); kernel_rfl) ?_
             refine oP (r := []) [8, 9, 10, 11, 12, 13] (S' := [(2, .bool false)]) ?_
             refine oD ?_
             have e := someS h1
             subst e
             exact jT fun a ha => ⟨false, rfl, ha.keep [2] (by kernel_rfl), hI⟩
           ·
            rw [if_neg hb44] at h1
            have hb44 : x21 = false := by simpa using hb44
            refine OpsT.keep [8, 9, 10, 122] (S' := [(8, .bool x26), (9, .bool x33), (10, .bool x40), (122, .bool false)]) (by (try simp only [hb44]); kernel_rfl) ?_
            refine oP (r := []) [5, 6, 7, 8, 9, 10, 11, 12, 13] (S' := [(2, .bool false)]) ?_
            refine oD ?_
            have e := someS h1
            subst e
            exact jT fun a ha => ⟨false, rfl, ha.keep [2] (by kernel_rfl), hI⟩
          ·
           rw [if_neg hb43] at h1
           have hb43 : x14 = false := by simpa using hb43
           refine OpsT.keep [7, 8, 9, 10, 119] (S' := [(7, .bool x21), (8, .bool x26), (9, .bool x33), (10, .bool x40), (119, .bool false)]) (by (try simp only [hb43]); kernel_rfl) ?_
           refine oP (r := []) [2, 3, 4, 5, 6, 7, 8, 9, 10, 11, 12, 13] (S' := [(2, .bool false)]) ?_
           refine oD ?_
           have e := someS h1
           subst e
           exact jT fun a ha => ⟨false, rfl, ha.keep [2] (by kernel_rfl), hI⟩
         ·
          rintro a w ⟨x42, rfl, ha, hI⟩
          try dsimp only at h0
          refine CodT.of ?_ ha
          refine jE ?_
          have e := someS h0
          subst e
          refine qK [2] (S' := [(2, .bool x42)]) ?_
          exact post_ret (v := .bool x42) (fun a ha => jU (vs := [.bool x42]) (.tmp (t := 2) (by kernel_rfl) .nil) ha (by kernel_rfl)) ⟨rfl, hI⟩
/-- cenotaph/cenotaphref04.Text -/
theorem c30 (w0 w : World) (Z : Hp) (A : HP) (hI : Inv w0 Z w A) (hT : Tabs Z) (a0 : ByteArray) (r : ByteArray) (h0 : ref04_Text a0 = some r) :
  Calls prog 30 #[.string a0] w (fun e w' => e = .returned (.string r) ∧ Inv w0 Z w' A) := by
 have e4 := calls_intro (R := (fun e w' => e = .returned (.string r) ∧ Inv w0 Z w' A)) (w := w) (args := [.string a0]) (fn := Go.Proofs.Tryz.f30) 8 Go.Proofs.Tryz.func30 (by rfl) Go.Proofs.Tryz.ntmps30 (by kernel_rfl)
 refine e4 ?_
 clear e4
 unfold ref04_Text at h0
 refine cQ (cR [0] ?_)
 refine oP (r := []) [0] (S' := [(0, .string a0)]) ?_
 refine oD (qT (cQ (cR [0, 1, 2, 3, 4, 5] ?_)))
 refine oP (r := [2, 3, 4, 5]) [0, 1] (S' := [(0, .string a0), (4, iv (a0.size : Int))]) ?_
 obtain ⟨y2, hc1, h0⟩ := bindS h0
 try dsimp only at h0
 refine oC (jC (d := some 5) (n := 27) (vs := [iv (a0.size : Int)]) (by kernel_rfl) en27 (c27 w0 w _ _ hI hT (a0.size : Int) _ hc1) ?_)
 rintro e w ⟨rfl, hI⟩
 refine ⟨_, rfl, ?_⟩
 refine oP (r := [4, 5]) [3] (S' := [(5, .string y2), (6, .string a0)]) ?_
 obtain ⟨hg3, h0⟩ := guardS h0
 refine oC (jY (Yl.cat (d := 7) (T := 9) (x := y2) (y := a0) (by kernel_rfl) hg3) hI ?_)
 refine oP (r := []) [5] (S' := [(2, .string (y2 ++ a0))]) ?_
 refine oD (qT (jE ?_))
 have e := someS h0
 subst e
 refine qK [2] (S' := [(2, .string (y2 ++ a0))]) ?_
 exact post_ret (v := .string (y2 ++ a0)) (fun a ha => jU (vs := [.string (y2 ++ a0)]) (.tmp (t := 2) (by kernel_rfl) .nil) ha (by kernel_rfl)) ⟨rfl, hI⟩
/-- cenotaph/cenotaphref05.Put -/
theorem c29 (w0 w : World) (Z : Hp) (A : HP) (hI : Inv w0 Z w A) (hT : Tabs Z) (a0 : ApiEvent) (hl1 : a0.Sum.length = 32) (r : (ByteArray × Bool)) (h0 : ref05_Put a0 = some r) :
  Calls prog 29 #[.agg (c_ApiEvent a0).toArray] w (fun e w' => e = .returned (.tuple #[.string r.1, .bool r.2]) ∧ Inv w0 Z w' A) := by
 have e4 := calls_intro (R := (fun e w' => e = .returned (.tuple #[.string r.1, .bool r.2]) ∧ Inv w0 Z w' A)) (w := w) (args := [.agg (c_ApiEvent a0).toArray]) (fn := Go.Proofs.Tryz.f29) 53 Go.Proofs.Tryz.func29 (by rfl) Go.Proofs.Tryz.ntmps29 (by kernel_rfl)
 refine e4 ?_
 clear e4
 unfold ref05_Put at h0
 refine cQ (cR [0, 1, 2] ?_)
 refine oC (Does.boxL (d := 1) (T := 50) (v := .agg (c_ApiEvent a0).toArray) (c_ApiEvent a0) (by kernel_rfl) hI (by kernel_rfl) ?_)
 intro b2 w hI
 refine oP (r := []) [1, 2] (S' := [(1, pb b2)]) ?_
 refine oD (qT (cQ (cR [0, 1, 2] ?_)))
 refine oC (jY (jL (d := 7) (T := 50) (v := .agg (c_ApiEvent a0).toArray) (by kernel_rfl) (ldBN ty50 (l := c_ApiEvent a0) (o := 0) (cs := c_ApiEvent a0) (ent_refl _) (len_ApiEvent _ hl1) (whole _ _ (len_ApiEvent _ hl1)))) hI ?_)
 obtain ⟨y4, hc3, h0⟩ := bindS h0
 try dsimp only at h0
 refine oC (jC (d := some 8) (n := 54) (vs := [.agg (c_ApiEvent a0).toArray]) (by kernel_rfl) en54 (c54 w0 w _ _ hI hT a0 hl1 _ hc3) ?_)
 rintro e w ⟨rfl, hI⟩
 refine ⟨_, rfl, ?_⟩
 refine oP (r := []) [2] (S' := [(1, pb b2), (4, .bool y4)]) ?_
 refine oD (qT (cQ (cQ (cR [0, 1] ?_))))
 refine oP (r := []) [0, 1] (S' := [(1, pb b2), (10, .bool (!y4))]) ?_
 refine oD (qT ?_)
 by_cases hb5 : (!y4) = true
 ·
  rw [if_pos hb5] at h0
  refine cY (b := !y4) hb5 ?_
  refine cQ (cR [0, 1] ?_)
  refine oP (r := []) [0, 1] (S' := [(2, .string q8e), (3, .bool false)]) ?_
  refine oD (qT (jE (jR ?_)))
  have hI := hI.drop
  have e := someS h0
  subst e
  refine qK [2, 3] (S' := [(2, .string q8e), (3, .bool false)]) ?_
  exact post_ret (v := .tuple #[.string q8e, .bool false]) (fun a ha => jU (vs := [.string q8e, .bool false]) (.tmp (t := 2) (by kernel_rfl) (.tmp (t := 3) (by kernel_rfl) .nil)) ha (by kernel_rfl)) ⟨rfl, hI⟩
 ·
  rw [if_neg hb5] at h0
  refine cN (b := !y4) (by simpa using hb5) ?_
  refine jS (qT (cQ (cR [0, 1, 2, 3, 4] ?_)))
  refine oP (r := [1, 2, 3, 4]) [0] (S' := [(1, pb b2), (11, pb b2)]) ?_
  refine oC (jY (jL (d := 12) (T := 48) (v := iv a0.Kind) (by kernel_rfl) (ldB ty48 (l := c_ApiEvent a0) (o := 0) (v := iv a0.Kind) (ent_refl _) (by kernel_rfl))) hI ?_)
  obtain ⟨y7, hc6, h0⟩ := bindS h0
  try dsimp only at h0
  refine oC (jC (d := some 13) (n := 55) (vs := [iv a0.Kind]) (by kernel_rfl) en55 (c55 w0 w _ _ hI hT a0.Kind _ hc6) ?_)
  rintro e w ⟨rfl, hl8, hI⟩
  refine ⟨_, rfl, ?_⟩
  refine oC (jA (d := 5) (T := 90) (cA Value.bool (List.replicate 5 (false : Bool))) (by kernel_rfl) ty90 hI (by kernel_rfl) ?_)
  intro b9 w hI
  refine oC (jV (T := 90) (b := b9) (n := 5) (xs := (List.replicate 5 (false : Bool))) (ys := y7) (by kernel_rfl) ty90 hI (fun _ => rfl) (by kernel_rfl) hl8 ?_)
  intro w hI
  refine oD (qT (cQ (cR [0, 1, 2, 3] ?_)))
  refine oP (r := [1, 2, 3]) [0] (S' := [(1, pb b2), (5, pb b9), (14, pb b2)]) ?_
  refine oC (jY (jL (d := 15) (T := 48) (v := iv a0.Kind) (by kernel_rfl) (ldB ty48 (l := c_ApiEvent a0) (o := 0) (v := iv a0.Kind) (pick2 _ _ _) (by kernel_rfl))) hI ?_)
  obtain ⟨y11, hc10, h0⟩ := bindS h0
  try dsimp only at h0
  refine oC (jC (d := some 16) (n := 27) (vs := [iv a0.Kind]) (by kernel_rfl) en27 (c27 w0 w _ _ hI hT a0.Kind _ hc10) ?_)
  rintro e w ⟨rfl, hI⟩
  refine ⟨_, rfl, ?_⟩
  refine oP (r := []) [3] (S' := [(1, pb b2), (5, pb b9), (6, .string y11)]) ?_
  refine oD (qT ?_)
  obtain ⟨r1, h1, h0⟩ := bindS h0
  refine jM (fun a w => ∃ (x12 : ByteArray), x12 = r1 ∧ Fr 53 [(1, pb b2), (5, pb b9), (6, .string x12)] a ∧ Inv w0 Z w (star (pt b9 (.cells (cA Value.bool y7).toArray 90 (0, 0))) (star (pt b2 (.cells (c_ApiEvent a0).toArray 50 (0, 0))) A))) ?_ ?_
  ·
   refine cQ (cR [0, 1] ?_)
   refine oP (r := [1]) [0] (S' := [(1, pb b2), (5, pb b9), (6, .string y11), (17, pb b9)]) ?_
   refine oC (jY (jL (d := 18) (T := 4) (v := .bool (gt y7 0)) (by kernel_rfl) (ldB ty4 (l := cA Value.bool y7) (o := 0) (v := .bool (gt y7 0)) (ent_refl _) (arr_getC _ _ 0 hl8 (by kernel_rfl)))) hI ?_)
   refine oD (qT ?_)
   by_cases hb13 : (gt y7 0) = true
   ·
    rw [if_pos hb13] at h1
    refine cY (b := gt y7 0) hb13 ?_
    refine cR [0, 1, 2, 3, 4, 5] ?_
    refine oP (r := [2, 3, 4, 5]) [0, 1] (S' := [(1, pb b2), (5, pb b9), (19, .string y11), (20, .pointer (some ⟨b2, 1, none⟩))]) ?_
    refine oC (jY (jL (d := 21) (T := 3) (v := iv a0.ID) (by kernel_rfl) (ldB ty3 (l := c_ApiEvent a0) (o := 1) (v := iv a0.ID) (pick2 _ _ _) (by kernel_rfl))) hI ?_)
    obtain ⟨y15, hc14, h1⟩ := bindS h1
    try dsimp only at h1
    refine oC (jC (d := some 22) (n := 27) (vs := [iv a0.ID]) (by kernel_rfl) en27 (c27 w0 w _ _ hI hT a0.ID _ hc14) ?_)
    rintro e w ⟨rfl, hI⟩
    refine ⟨_, rfl, ?_⟩
    obtain ⟨hg16, h1⟩ := guardS h1
    refine oC (jY (Yl.cat (d := 23) (T := 9) (x := y11) (y := y15) (by kernel_rfl) hg16) hI ?_)
    refine oP (r := []) [5] (S' := [(1, pb b2), (5, pb b9), (6, .string (y11 ++ y15))]) ?_
    refine oD ?_
    have e := someS h1
    subst e
    exact jT fun a ha => ⟨y11 ++ y15, rfl, ha.keep [1, 5, 6] (by kernel_rfl), hI⟩
   ·
    rw [if_neg hb13] at h1
    refine cN (b := gt y7 0) (by simpa using hb13) ?_
    refine jS ?_
    have e := someS h1
    subst e
    exact jT fun a ha => ⟨y11, rfl, ha.keep [1, 5, 6] (by kernel_rfl), hI⟩
  ·
   rintro a w ⟨x12, rfl, ha, hI⟩
   try dsimp only at h0
   refine CodT.of ?_ ha
   obtain ⟨r1, h1, h0⟩ := bindS h0
   refine jM (fun a w => ∃ (x17 : ByteArray), x17 = r1 ∧ Fr 53 [(1, pb b2), (5, pb b9), (6, .string x17)] a ∧ Inv w0 Z w (star (pt b9 (.cells (cA Value.bool y7).toArray 90 (0, 0))) (star (pt b2 (.cells (c_ApiEvent a0).toArray 50 (0, 0))) A))) ?_ ?_
   ·
    refine cQ (cR [0, 1] ?_)
    refine oP (r := [1]) [0] (S' := [(1, pb b2), (5, pb b9), (6, .string x12), (24, .pointer (some ⟨b9, 1, none⟩))]) ?_
    refine oC (jY (jL (d := 25) (T := 4) (v := .bool (gt y7 1)) (by kernel_rfl) (ldB ty4 (l := cA Value.bool y7) (o := 1) (v := .bool (gt y7 1)) (ent_refl _) (arr_getC _ _ 1 hl8 (by kernel_rfl)))) hI ?_)
    refine oD (qT ?_)
    by_cases hb18 : (gt y7 1) = true
    ·
     rw [if_pos hb18] at h1
     refine cY (b := gt y7 1) hb18 ?_
     refine cR [0, 1, 2, 3, 4, 5] ?_
     refine oP (r := [2, 3, 4, 5]) [0, 1] (S' := [(1, pb b2), (5, pb b9), (26, .string x12), (27, .pointer (some ⟨b2, 2, none⟩))]) ?_
     refine oC (jY (jL (d := 28) (T := 9) (v := .string a0.Name) (by kernel_rfl) (ldB ty9 (l := c_ApiEvent a0) (o := 2) (v := .string a0.Name) (pick2 _ _ _) (by kernel_rfl))) hI ?_)
     obtain ⟨y20, hc19, h1⟩ := bindS h1
     try dsimp only at h1
     refine oC (jC (d := some 29) (n := 30) (vs := [.string a0.Name]) (by kernel_rfl) en30 (c30 w0 w _ _ hI hT a0.Name _ hc19) ?_)
     rintro e w ⟨rfl, hI⟩
     refine ⟨_, rfl, ?_⟩
     obtain ⟨hg21, h1⟩ := guardS h1
     refine oC (jY (Yl.cat (d := 30) (T := 9) (x := x12) (y := y20) (by kernel_rfl) hg21) hI ?_)
     refine oP (r := []) [5] (S' := [(1, pb b2), (5, pb b9), (6, .string (x12 ++ y20))]) ?_
     refine oD ?_
     have e := someS h1
     subst e
     exact jT fun a ha => ⟨x12 ++ y20, rfl, ha.keep [1, 5, 6] (by kernel_rfl), hI⟩
    ·
     rw [if_neg hb18] at h1
     refine cN (b := gt y7 1) (by simpa using hb18) ?_
     refine jS ?_
     have e := someS h1
     subst e
     exact jT fun a ha => ⟨x12, rfl, ha.keep [1, 5, 6] (by kernel_rfl), hI⟩
   ·
    rintro a w ⟨x17, rfl, ha, hI⟩
    try dsimp only at h0
    refine CodT.of ?_ ha
    obtain ⟨r1, h1, h0⟩ := bindS h0
    refine jM (fun a w => ∃ (x22 : ByteArray), x22 = r1 ∧ Fr 53 [(1, pb b2), (5, pb b9), (6, .string x22)] a ∧ Inv w0 Z w (star (pt b9 (.cells (cA Value.bool y7).toArray 90 (0, 0))) (star (pt b2 (.cells (c_ApiEvent a0).toArray 50 (0, 0))) A))) ?_ ?_
    ·
     refine cQ (cR [0, 1] ?_)
     refine oP (r := [1]) [0] (S' := [(1, pb b2), (5, pb b9), (6, .string x17), (31, .pointer (some ⟨b9, 2, none⟩))]) ?_
     refine oC (jY (jL (d := 32) (T := 4) (v := .bool (gt y7 2)) (by kernel_rfl) (ldB ty4 (l := cA Value.bool y7) (o := 2) (v := .bool (gt y7 2)) (ent_refl _) (arr_getC _ _ 2 hl8 (by kernel_rfl)))) hI ?_)
     refine oD (qT ?_)
     by_cases hb23 : (gt y7 2) = true
     ·
      rw [if_pos hb23] at h1
      refine cY (b := gt y7 2) hb23 ?_
      refine cR [0, 1, 2, 3, 4, 5] ?_
      refine oP (r := [2, 3, 4, 5]) [0, 1] (S' := [(1, pb b2), (5, pb b9), (33, .string x17), (34, .pointer (some ⟨b2, 3, none⟩))]) ?_
      refine oC (jY (jL (d := 35) (T := 3) (v := iv a0.Time) (by kernel_rfl) (ldB ty3 (l := c_ApiEvent a0) (o := 3) (v := iv a0.Time) (pick2 _ _ _) (by kernel_rfl))) hI ?_)
      obtain ⟨y25, hc24, h1⟩ := bindS h1
      try dsimp only at h1
      refine oC (jC (d := some 36) (n := 27) (vs := [iv a0.Time]) (by kernel_rfl) en27 (c27 w0 w _ _ hI hT a0.Time _ hc24) ?_)
      rintro e w ⟨rfl, hI⟩
      refine ⟨_, rfl, ?_⟩
      obtain ⟨hg26, h1⟩ := guardS h1
      refine oC (jY (Yl.cat (d := 37) (T := 9) (x := x17) (y := y25) (by kernel_rfl) hg26) hI ?_)
      refine oP (r := []) [5] (S' := [(1, pb b2), (5, pb b9), (6, .string (x17 ++ y25))]) ?_
      refine oD ?_
      have e := someS h1
      subst e
      exact jT fun a ha => ⟨x17 ++ y25, rfl, ha.keep [1, 5, 6] (by kernel_rfl), hI⟩
     ·
      rw [if_neg hb23] at h1
      refine cN (b := gt y7 2) (by simpa using hb23) ?_
      refine jS ?_
      have e := someS h1
      subst e
      exact jT fun a ha => ⟨x17, rfl, ha.keep [1, 5, 6] (by kernel_rfl), hI⟩
    ·
     rintro a w ⟨x22, rfl, ha, hI⟩
     try dsimp only at h0
     refine CodT.of ?_ ha
     obtain ⟨r1, h1, h0⟩ := bindS h0
     refine jM (fun a w => ∃ (x27 : ByteArray), x27 = r1 ∧ Fr 53 [(1, pb b2), (5, pb b9), (6, .string x27)] a ∧ Inv w0 Z w (star (pt b9 (.cells (cA Value.bool y7).toArray 90 (0, 0))) (star (pt b2 (.cells (c_ApiEvent a0).toArray 50 (0, 0))) A))) ?_ ?_
     ·
      refine cQ (cR [0, 1] ?_)
      refine oP (r := [1]) [0] (S' := [(1, pb b2), (5, pb b9), (6, .string x22), (38, .pointer (some ⟨b9, 3, none⟩))]) ?_
      refine oC (jY (jL (d := 39) (T := 4) (v := .bool (gt y7 3)) (by kernel_rfl) (ldB ty4 (l := cA Value.bool y7) (o := 3) (v := .bool (gt y7 3)) (ent_refl _) (arr_getC _ _ 3 hl8 (by kernel_rfl)))) hI ?_)
      refine oD (qT ?_)
      by_cases hb28 : (gt y7 3) = true
      ·
       rw [if_pos hb28] at h1
       refine cY (b := gt y7 3) hb28 ?_
       refine cR [0, 1, 2, 3, 4, 5] ?_
       refine oP (r := [2, 3, 4, 5]) [0, 1] (S' := [(1, pb b2), (5, pb b9), (40, .string x22), (41, .pointer (some ⟨b2, 4, none⟩))]) ?_
       refine oC (jY (jL (d := 42) (T := 3) (v := iv a0.Len) (by kernel_rfl) (ldB ty3 (l := c_ApiEvent a0) (o := 4) (v := iv a0.Len) (pick2 _ _ _) (by kernel_rfl))) hI ?_)
       obtain ⟨y30, hc29, h1⟩ := bindS h1
       try dsimp only at h1
       refine oC (jC (d := some 43) (n := 27) (vs := [iv a0.Len]) (by kernel_rfl) en27 (c27 w0 w _ _ hI hT a0.Len _ hc29) ?_)
       rintro e w ⟨rfl, hI⟩
       refine ⟨_, rfl, ?_⟩
       obtain ⟨hg31, h1⟩ := guardS h1
       refine oC (jY (Yl.cat (d := 44) (T := 9) (x := x22) (y := y30) (by kernel_rfl) hg31) hI ?_)
       refine oP (r := []) [5] (S' := [(1, pb b2), (5, pb b9), (6, .string (x22 ++ y30))]) ?_
       refine oD ?_
       have e := someS h1
       subst e
       exact jT fun a ha => ⟨x22 ++ y30, rfl, ha.keep [1, 5, 6] (by kernel_rfl), hI⟩
      ·
       rw [if_neg hb28] at h1
       refine cN (b := gt y7 3) (by simpa using hb28) ?_
       refine jS ?_
       have e := someS h1
       subst e
       exact jT fun a ha => ⟨x22, rfl, ha.keep [1, 5, 6] (by kernel_rfl), hI⟩
     ·
      rintro a w ⟨x27, rfl, ha, hI⟩
      try dsimp only at h0
      refine CodT.of ?_ ha
      obtain ⟨r1, h1, h0⟩ := bindS h0
      refine jM (fun a w => ∃ (x32 : ByteArray), x32 = r1 ∧ Fr 53 [(6, .string x32)] a ∧ Inv w0 Z w A) ?_ ?_
      ·
       refine cQ (cR [0, 1] ?_)
       refine oP (r := [1]) [0] (S' := [(1, pb b2), (6, .string x27), (45, .pointer (some ⟨b9, 4, none⟩))]) ?_
       refine oC (jY (jL (d := 46) (T := 4) (v := .bool (gt y7 4)) (by kernel_rfl) (ldB ty4 (l := cA Value.bool y7) (o := 4) (v := .bool (gt y7 4)) (ent_refl _) (arr_getC _ _ 4 hl8 (by kernel_rfl)))) hI ?_)
       refine oD (qT ?_)
       by_cases hb33 : (gt y7 4) = true
       ·
        rw [if_pos hb33] at h1
        refine cY (b := gt y7 4) hb33 ?_
        refine cR [0, 1, 2, 3, 4, 5] ?_
        refine oP (r := [2, 3, 4, 5]) [0, 1] (S' := [(47, .string x27), (48, .pointer (some ⟨b2, 5, none⟩))]) ?_
        refine oC (jY (jL (d := 49) (T := 23) (v := .agg (q8c a0.Sum).toArray) (by kernel_rfl) (ldBN ty23 (l := c_ApiEvent a0) (o := 5) (cs := cA (Value.int .u8) a0.Sum) (pick2 _ _ _) ((cA_length _ _).trans hl1) (tail_take _ _ _ _ _ (by kernel_rfl) hl1))) hI ?_)
        obtain ⟨y35, hc34, h1⟩ := bindS h1
        try dsimp only at h1
        refine oC (jC (d := some 50) (n := 28) (vs := [.agg (q8c a0.Sum).toArray]) (by kernel_rfl) en28 (c28 w0 w _ _ hI hT a0.Sum hl1 _ hc34) ?_)
        rintro e w ⟨rfl, hI⟩
        refine ⟨_, rfl, ?_⟩
        obtain ⟨hg36, h1⟩ := guardS h1
        refine oC (jY (Yl.cat (d := 51) (T := 9) (x := x27) (y := y35) (by kernel_rfl) hg36) hI ?_)
        refine oP (r := []) [5] (S' := [(6, .string (x27 ++ y35))]) ?_
        refine oD ?_
        have hI := hI.drop
        have hI := hI.drop
        have e := someS h1
        subst e
        exact jT fun a ha => ⟨x27 ++ y35, rfl, ha.keep [6] (by kernel_rfl), hI⟩
       ·
        rw [if_neg hb33] at h1
        refine cN (b := gt y7 4) (by simpa using hb33) ?_
        refine jS ?_
        have hI := hI.drop
        have hI := hI.drop
        have e := someS h1
        subst e
        exact jT fun a ha => ⟨x27, rfl, ha.keep [6] (by kernel_rfl), hI⟩
      ·
       rintro a w ⟨x32, rfl, ha, hI⟩
       try dsimp only at h0
       refine CodT.of ?_ ha
       refine cQ (cR [0, 1, 2] ?_)
       refine oP (r := []) [0, 1, 2] (S' := [(2, .string x32), (3, .bool true)]) ?_
       refine oD (qT (jE ?_))
       have e := someS h0
       subst e
       refine qK [2, 3] (S' := [(2, .string x32), (3, .bool true)]) ?_
       exact post_ret (v := .tuple #[.string x32, .bool true]) (fun a ha => jU (vs := [.string x32, .bool true]) (.tmp (t := 2) (by kernel_rfl) (.tmp (t := 3) (by kernel_rfl) .nil)) ha (by kernel_rfl)) ⟨rfl, hI⟩
/-- cenotaph/cenotaphref11.Put -/
theorem c9 (w0 w : World) (Z : Hp) (A : HP) (hI : Inv w0 Z w A) (hT : Tabs Z) (ud : Int) (ue : (List Int)) (uba : ue.length = 32) (ua : Option Addr) (ui : Nat) (uc : (List ApiEvent)) (ubc : RdS Z c_ApiEvent 37 ua ui uc) (r : (ByteArray × Bool)) (h0 : ref11_Put ud ue uc = some r) :
  Calls prog 9 #[.agg ((([iv ud] : LV) ++ (q8c ue) ++ ([.slice ua uc.length ui] : LV))).toArray] w (fun e w' => e = .returned (.tuple #[.string r.1, .bool r.2]) ∧ Inv w0 Z w' A) := by
 have e4 := calls_intro (R := (fun e w' => e = .returned (.tuple #[.string r.1, .bool r.2]) ∧ Inv w0 Z w' A)) (w := w) (args := [.agg ((([iv ud] : LV) ++ (q8c ue) ++ ([.slice ua uc.length ui] : LV))).toArray]) (fn := Go.Proofs.Tryz.f9) 58 Go.Proofs.Tryz.func9 (by rfl) Go.Proofs.Tryz.ntmps9 (by kernel_rfl)
 refine e4 ?_
 clear e4
 unfold ref11_Put at h0
 refine cQ (cR [0, 1, 2] ?_)
 refine oC (Does.boxL (d := 1) (T := 32) (v := .agg ((([iv ud] : LV) ++ (q8c ue) ++ ([.slice ua uc.length ui] : LV))).toArray) ((([iv ud] : LV) ++ (q8c ue) ++ ([.slice ua uc.length ui] : LV))) (by kernel_rfl) hI (by kernel_rfl) ?_)
 intro b1 w hI
 refine oP (r := []) [1, 2] (S' := [(1, pb b1)]) ?_
 refine oD (qT (cQ ?_))
 obtain ⟨r1, h1, h0⟩ := bindS h0
 refine jM (fun a w => ∃ (x2 : Bool), x2 = r1 ∧ Fr 58 [(1, pb b1), (21, .bool x2)] a ∧ Inv w0 Z w (star (pt b1 (.cells ((([iv ud] : LV) ++ (q8c ue) ++ ([.slice ua uc.length ui] : LV))).toArray 32 (0, 0))) A)) ?_ ?_
 ·
  refine cR [0, 1, 2, 3, 4, 5, 6, 7, 8, 9, 10, 11, 12, 13] ?_
  refine oP (r := [1, 2, 3, 4, 5, 6, 7, 8, 9, 10, 11, 12, 13]) [0] (S' := [(1, pb b1), (8, pb b1)]) ?_
  refine oC (jY (jL (d := 9) (T := 3) (v := iv ud) (by kernel_rfl) (ldB ty3 (l := (([iv ud] : LV) ++ (q8c ue) ++ ([.slice ua uc.length ui] : LV))) (o := 0) (v := iv ud) (ent_refl _) (by kernel_rfl))) hI ?_)
  refine oP (r := [4, 5, 6, 7, 8, 9, 10, 11, 12, 13]) [2, 3] (S' := [(1, pb b1), (11, .bool (decide (ud < 0)))]) ?_
  by_cases hb3 : (decide (ud < 0)) = true
  ·
   rw [if_pos hb3] at h1
   refine OpsT.keep [1, 11] (S' := [(1, pb b1), (11, .bool true)]) (by (try simp only [hb3]); kernel_rfl) ?_
   refine oP (r := []) [4, 5, 6, 7, 8, 9, 10, 11, 12, 13] (S' := [(1, pb b1), (21, .bool true)]) ?_
   refine oD ?_
   have e := someS h1
   subst e
   exact jT fun a ha => ⟨true, rfl, ha.keep [1, 21] (by kernel_rfl), hI⟩
  ·
   rw [if_neg hb3] at h1
   have hb3 : (decide (ud < 0)) = false := by simpa using hb3
   refine OpsT.keep [1, 11] (S' := [(1, pb b1), (11, .bool false)]) (by (try simp only [hb3]); kernel_rfl) ?_
   refine oP (r := [5, 6, 7, 8, 9, 10, 11, 12, 13]) [4] (S' := [(1, pb b1), (11, .bool false), (12, pb b1)]) ?_
   refine oC (jY (jL (d := 13) (T := 3) (v := iv ud) (by kernel_rfl) (ldB ty3 (l := (([iv ud] : LV) ++ (q8c ue) ++ ([.slice ua uc.length ui] : LV))) (o := 0) (v := iv ud) (ent_refl _) (by kernel_rfl))) hI ?_)
   refine oP (r := [9, 10, 11, 12, 13]) [6, 7, 8] (S' := [(1, pb b1), (16, .bool (decide (ud > 400)))]) ?_
   by_cases hb4 : (decide (ud > 400)) = true
   ·
    rw [if_pos hb4] at h1
    refine OpsT.keep [1, 16] (S' := [(1, pb b1), (16, .bool true)]) (by (try simp only [hb4]); kernel_rfl) ?_
    refine oP (r := []) [9, 10, 11, 12, 13] (S' := [(1, pb b1), (21, .bool true)]) ?_
    refine oD ?_
    have e := someS h1
    subst e
    exact jT fun a ha => ⟨true, rfl, ha.keep [1, 21] (by kernel_rfl), hI⟩
   ·
    rw [if_neg hb4] at h1
    have hb4 : (decide (ud > 400)) = false := by simpa using hb4
    refine OpsT.keep [1, 16] (S' := [(1, pb b1), (16, .bool false)]) (by (try simp only [hb4]); kernel_rfl) ?_
    refine oP (r := [10, 11, 12, 13]) [9] (S' := [(1, pb b1), (16, .bool false), (17, .pointer (some ⟨b1, 33, none⟩))]) ?_
    refine oC (jY (jL (d := 18) (T := 24) (v := .slice ua uc.length ui) (by kernel_rfl) (ldB ty24 (l := (([iv ud] : LV) ++ (q8c ue) ++ ([.slice ua uc.length ui] : LV))) (o := 33) (v := .slice ua uc.length ui) (ent_refl _) (seg_get [([iv ud] : LV), cA (Value.int .u8) ue, ([.slice ua uc.length ui] : LV)] 2 (by simp [cA_length, uba]) (by simp [cA_length, uba]) rfl))) hI ?_)
    refine oP (r := []) [11, 12, 13] (S' := [(1, pb b1), (21, .bool (decide ((uc.length : Int) > 400)))]) ?_
    refine oD ?_
    have e := someS h1
    subst e
    exact jT fun a ha => ⟨decide ((uc.length : Int) > 400), rfl, ha.keep [1, 21] (by kernel_rfl), hI⟩
 ·
  rintro a w ⟨x2, rfl, ha, hI⟩
  try dsimp only at h0
  refine CodT.of ?_ ha
  by_cases hb5 : x2 = true
  ·
   rw [if_pos hb5] at h0
   refine cY (b := x2) hb5 ?_
   refine cQ (cR [0, 1] ?_)
   refine oP (r := []) [0, 1] (S' := [(2, .string q8e), (3, .bool false)]) ?_
   refine oD (qT (jE (jR ?_)))
   have hI := hI.drop
   have e := someS h0
   subst e
   refine qK [2, 3] (S' := [(2, .string q8e), (3, .bool false)]) ?_
   exact post_ret (v := .tuple #[.string q8e, .bool false]) (fun a ha => jU (vs := [.string q8e, .bool false]) (.tmp (t := 2) (by kernel_rfl) (.tmp (t := 3) (by kernel_rfl) .nil)) ha (by kernel_rfl)) ⟨rfl, hI⟩
  ·
   rw [if_neg hb5] at h0
   refine cN (b := x2) (by simpa using hb5) ?_
   refine jS (qT (cQ ?_))
   refine CodT.drawI (n := 14) [] (by kernel_rfl) (by kernel_rfl) hI ?_
   intro w hI
   refine gP 0 22 (pb b1) ?_
   refine gP 4 26 (.pointer (some ⟨b1, 1, none⟩)) ?_
   refine gP 8 30 (.pointer (some ⟨b1, 33, none⟩)) ?_
   refine gR (i := 1) 2 (jL (d := 23) (T := 3) (v := iv ud) (by kernel_rfl) (ldB ty3 (l := (([iv ud] : LV) ++ (q8c ue) ++ ([.slice ua uc.length ui] : LV))) (o := 0) (v := iv ud) (ent_refl _) (by kernel_rfl))) hI ?_
   refine gR (i := 5) 2 (jL (d := 27) (T := 23) (v := .agg (q8c ue).toArray) (by kernel_rfl) (ldBN ty23 (l := (([iv ud] : LV) ++ (q8c ue) ++ ([.slice ua uc.length ui] : LV))) (o := 1) (cs := cA (Value.int .u8) ue) (ent_refl _) ((cA_length _ _).trans uba) (seg_take [([iv ud] : LV), cA (Value.int .u8) ue, ([.slice ua uc.length ui] : LV)] 1 1 (by simp [cA_length, uba]) (by simp [cA_length, uba]) (by simp [cA_length, uba]) (by simp [cA_length, uba])))) hI ?_
   refine gR (i := 9) 2 (jL (d := 31) (T := 24) (v := .slice ua uc.length ui) (by kernel_rfl) (ldB ty24 (l := (([iv ud] : LV) ++ (q8c ue) ++ ([.slice ua uc.length ui] : LV))) (o := 33) (v := .slice ua uc.length ui) (ent_refl _) (seg_get [([iv ud] : LV), cA (Value.int .u8) ue, ([.slice ua uc.length ui] : LV)] 2 (by simp [cA_length, uba]) (by simp [cA_length, uba]) rfl))) hI ?_
   refine gP 10 32 (iv (uc.length : Int)) ?_
   obtain ⟨y7, hc6, h0⟩ := bindS h0
   try dsimp only at h0
   refine jO (i := 2) (by kernel_rfl) (jC (d := some 24) (n := 27) (vs := [iv ud]) (by kernel_rfl) en27 (c27 w0 w _ _ hI hT ud _ hc6) ?_)
   rintro e w ⟨rfl, hI⟩
   refine ⟨_, rfl, ?_⟩
   refine ⟨fun _ _ => hI, ?_⟩
   obtain ⟨hg8, h0⟩ := guardS h0
   refine gR (i := 3) 2 (Yl.cat (d := 25) (T := 9) (x := (⟨#[67, 69, 78, 79]⟩ : ByteArray)) (y := y7) (by kernel_rfl) hg8) hI ?_
   obtain ⟨y10, hc9, h0⟩ := bindS h0
   try dsimp only at h0
   refine jO (i := 6) (by kernel_rfl) (jC (d := some 28) (n := 28) (vs := [.agg (q8c ue).toArray]) (by kernel_rfl) en28 (c28 w0 w _ _ hI hT ue uba _ hc9) ?_)
   rintro e w ⟨rfl, hI⟩
   refine ⟨_, rfl, ?_⟩
   refine ⟨fun _ _ => hI, ?_⟩
   obtain ⟨hg11, h0⟩ := guardS h0
   refine gR (i := 7) 2 (Yl.cat (d := 29) (T := 9) (x := (⟨#[67, 69, 78, 79]⟩ : ByteArray) ++ y7) (y := y10) (by kernel_rfl) hg11) hI ?_
   obtain ⟨y13, hc12, h0⟩ := bindS h0
   try dsimp only at h0
   refine jO (i := 11) (by kernel_rfl) (jC (d := some 33) (n := 27) (vs := [iv (uc.length : Int)]) (by kernel_rfl) en27 (c27 w0 w _ _ hI hT (uc.length : Int) _ hc12) ?_)
   rintro e w ⟨rfl, hI⟩
   refine ⟨_, rfl, ?_⟩
   refine ⟨fun _ _ => hI, ?_⟩
   obtain ⟨hg14, h0⟩ := guardS h0
   refine gR (i := 12) 2 (Yl.cat (d := 34) (T := 9) (x := ((⟨#[67, 69, 78, 79]⟩ : ByteArray) ++ y7) ++ y10) (y := y13) (by kernel_rfl) hg14) hI ?_
   refine gP 13 4 (.string ((((⟨#[67, 69, 78, 79]⟩ : ByteArray) ++ y7) ++ y10) ++ y13)) ?_
   refine jD (by kernel_rfl) ?_
   refine qT (cQ (cQ (cR [0] ?_)))
   refine oP (r := []) [0] (S' := [(1, pb b1), (4, .string ((((⟨#[67, 69, 78, 79]⟩ : ByteArray) ++ y7) ++ y10) ++ y13)), (5, iv 0)]) ?_
   refine oD (qT ?_)
   obtain ⟨r1, h1, h0⟩ := bindS h0
   refine CodT.meet1 (fun a w => ∃ (x15 : ByteArray), .inr x15 = r1 ∧ Fr 58 [(4, .string x15)] a ∧ Inv w0 Z w A) ?_ ?_
   ·
    refine jB ?_
    refine (fun a ha => wp_loopN (fun k a w => ∃ (x16 : ByteArray) (x17 : Int), ref11_Put.l0 uc k x16 x17 = some r1 ∧ Fr 58 [(1, pb b1), (4, .string x16), (5, iv x17)] a ∧ Inv w0 Z w (star (pt b1 (.cells ((([iv ud] : LV) ++ (q8c ue) ++ ([.slice ua uc.length ui] : LV))).toArray 32 (0, 0))) A)) ?_ FU a w ⟨(((⟨#[67, 69, 78, 79]⟩ : ByteArray) ++ y7) ++ y10) ++ y13, 0, h1, ha.keep [1, 4, 5] (by kernel_rfl), hI⟩)
    clear h1 hI
    rintro k a w ⟨x16, x17, h1, ha, hI⟩
    rcases k with _ | k
    ·
     cases h1
    simp only [ref11_Put.l0] at h1
    refine CodT.of ?_ ha
    refine cQ (cQ (cR [0, 1, 2, 3, 4] ?_))
    refine oP (r := [2, 3, 4]) [0, 1] (S' := [(1, pb b1), (4, .string x16), (5, iv x17), (35, iv x17), (36, .pointer (some ⟨b1, 33, none⟩))]) ?_
    refine oC (jY (jL (d := 37) (T := 24) (v := .slice ua uc.length ui) (by kernel_rfl) (ldB ty24 (l := (([iv ud] : LV) ++ (q8c ue) ++ ([.slice ua uc.length ui] : LV))) (o := 33) (v := .slice ua uc.length ui) (ent_refl _) (seg_get [([iv ud] : LV), cA (Value.int .u8) ue, ([.slice ua uc.length ui] : LV)] 2 (by simp [cA_length, uba]) (by simp [cA_length, uba]) rfl))) hI ?_)
    refine oP (r := []) [3, 4] (S' := [(1, pb b1), (4, .string x16), (5, iv x17), (39, .bool (decide (x17 < (uc.length : Int))))]) ?_
    refine oD (qT ?_)
    by_cases hb18 : (decide (x17 < (uc.length : Int))) = true
    ·
     rw [if_pos hb18] at h1
     refine cY (b := decide (x17 < (uc.length : Int))) hb18 ?_
     refine jS (qT (cQ (jB (cQ (cR [0, 1, 2, 3, 4, 5, 6, 7, 8, 9, 10] ?_)))))
     refine oP (r := [1, 2, 3, 4, 5, 6, 7, 8, 9, 10]) [0] (S' := [(1, pb b1), (4, .string x16), (5, iv x17), (43, .pointer (some ⟨b1, 33, none⟩))]) ?_
     refine oC (jY (jL (d := 44) (T := 24) (v := .slice ua uc.length ui) (by kernel_rfl) (ldB ty24 (l := (([iv ud] : LV) ++ (q8c ue) ++ ([.slice ua uc.length ui] : LV))) (o := 33) (v := .slice ua uc.length ui) (ent_refl _) (seg_get [([iv ud] : LV), cA (Value.int .u8) ue, ([.slice ua uc.length ui] : LV)] 2 (by simp [cA_length, uba]) (by simp [cA_length, uba]) rfl))) hI ?_)
     refine oP (r := [3, 4, 5, 6, 7, 8, 9, 10]) [2] (S' := [(1, pb b1), (4, .string x16), (5, iv x17), (44, .slice ua uc.length ui), (45, iv x17)]) ?_
     obtain ⟨hg19, h1⟩ := guardS h1
     obtain ⟨g20, o24, hA21, hr22, hl23⟩ := RdS.get ubc hg19.1 hg19.2
     refine oC (jY (Yl.indexSlice (d := 46) (T := 24) (cc := ui) (k := .i64) (j := x17) (g := g20) (o := o24) (by kernel_rfl) Go.Proofs.Tryz.underlying24 ty50 hA21 hg19.1 hg19.2) hI ?_)
     refine oC (jY (jL (d := 47) (T := 50) (v := .agg (c_ApiEvent (gt uc x17)).toArray) (by kernel_rfl) (ldRN ty50 (cs := c_ApiEvent (gt uc x17)) 0 (fun w hC => hr22 w0 w _ hC) hl23 (whole _ _ hl23))) hI ?_)
     obtain ⟨⟨y26, y27⟩, hc25, h1⟩ := bindS h1
     try dsimp only at h1
     refine oC (jC (d := some 48) (n := 29) (vs := [.agg (c_ApiEvent (gt uc x17)).toArray]) (by kernel_rfl) en29 (c29 w0 w _ _ hI hT (gt uc x17) (inv_ApiEvent _ hl23) _ hc25) ?_)
     rintro e w ⟨rfl, hI⟩
     refine ⟨_, rfl, ?_⟩
     refine oP (r := []) [6, 7, 8, 9, 10] (S' := [(1, pb b1), (4, .string x16), (5, iv x17), (6, .string y26), (7, .bool y27)]) ?_
     refine oD (qT (cQ (cQ (cR [0, 1] ?_))))
     refine oP (r := []) [0, 1] (S' := [(1, pb b1), (4, .string x16), (5, iv x17), (6, .string y26), (52, .bool (!y27))]) ?_
     refine oD (qT ?_)
     by_cases hb28 : (!y27) = true
     ·
      rw [if_pos hb28] at h1
      refine cY (b := !y27) hb28 ?_
      refine cQ (cR [0, 1] ?_)
      refine oP (r := []) [0, 1] (S' := [(2, .string q8e), (3, .bool false)]) ?_
      refine oD (qT (jE (jR (jQ (jR (jR (jQ (jR (jR ?_)))))))))
      have hI := hI.drop
      have e := someS h1
      subst e
      try dsimp only at h0
      have e := someS h0
      subst e
      refine qK [2, 3] (S' := [(2, .string q8e), (3, .bool false)]) ?_
      exact post_ret (v := .tuple #[.string q8e, .bool false]) (fun a ha => jU (vs := [.string q8e, .bool false]) (.tmp (t := 2) (by kernel_rfl) (.tmp (t := 3) (by kernel_rfl) .nil)) ha (by kernel_rfl)) ⟨rfl, hI⟩
     ·
      rw [if_neg hb28] at h1
      refine cN (b := !y27) (by simpa using hb28) ?_
      refine jS (qT (cR [0, 1, 2, 3, 4] ?_))
      refine oP (r := [2, 3, 4]) [0, 1] (S' := [(1, pb b1), (5, iv x17), (53, .string x16), (54, .string y26)]) ?_
      obtain ⟨y30, hc29, h1⟩ := bindS h1
      try dsimp only at h1
      refine oC (jC (d := some 55) (n := 30) (vs := [.string y26]) (by kernel_rfl) en30 (c30 w0 w _ _ hI hT y26 _ hc29) ?_)
      rintro e w ⟨rfl, hI⟩
      refine ⟨_, rfl, ?_⟩
      obtain ⟨hg31, h1⟩ := guardS h1
      refine oC (jY (Yl.cat (d := 56) (T := 9) (x := x16) (y := y30) (by kernel_rfl) hg31) hI ?_)
      refine oP (r := []) [4] (S' := [(1, pb b1), (4, .string (x16 ++ y30)), (5, iv x17)]) ?_
      refine oD (jN (qT (cR [0, 1, 2] ?_)))
      refine oP (r := []) [0, 1, 2] (S' := [(1, pb b1), (4, .string (x16 ++ y30)), (5, iv (wi64 (x17 + 1)))]) ?_
      refine oD ?_
      exact jT fun a ha => ⟨k, Nat.lt_succ_self k, x16 ++ y30, wi64 (x17 + 1), h1, ha.keep [1, 4, 5] (by kernel_rfl), hI⟩
    ·
     rw [if_neg hb18] at h1
     refine cN (b := decide (x17 < (uc.length : Int))) (by simpa using hb18) ?_
     refine jZ ?_
     refine jX (jX ?_)
     refine Qn.block ?_
     have hI := hI.drop
     have e := someS h1
     subst e
     exact jT fun a ha => ⟨x16, rfl, ha.keep [4] (by kernel_rfl), hI⟩
   ·
    rintro a w ⟨x15, rfl, ha, hI⟩
    try dsimp only at h0
    refine Qn.of ?_ ha
    refine qT (cQ (cR [0, 1, 2] ?_))
    refine oP (r := []) [0, 1, 2] (S' := [(2, .string x15), (3, .bool true)]) ?_
    refine oD (qT (jE ?_))
    have e := someS h0
    subst e
    refine qK [2, 3] (S' := [(2, .string x15), (3, .bool true)]) ?_
    exact post_ret (v := .tuple #[.string x15, .bool true]) (fun a ha => jU (vs := [.string x15, .bool true]) (.tmp (t := 2) (by kernel_rfl) (.tmp (t := 3) (by kernel_rfl) .nil)) ha (by kernel_rfl)) ⟨rfl, hI⟩
/-- cenotaph/cenotaphref05.Same -/
theorem c31 (w0 w : World) (Z : Hp) (A : HP) (hI : Inv w0 Z w A) (hT : Tabs Z) (A_a0 : Option Addr) (c_a0 : Nat) (a0 : (List ApiEvent)) (hr_a0 : RdS Z c_ApiEvent 37 A_a0 c_a0 a0) (A_a1 : Option Addr) (c_a1 : Nat) (a1 : (List ApiEvent)) (hr_a1 : RdS Z c_ApiEvent 37 A_a1 c_a1 a1) (r : Bool) (h0 : ref05_Same a0 a1 = some r) :
  Calls prog 31 #[.slice A_a0 a0.length c_a0, .slice A_a1 a1.length c_a1] w (fun e w' => e = .returned (.bool r) ∧ Inv w0 Z w' A) := by
 have e4 := calls_intro (R := (fun e w' => e = .returned (.bool r) ∧ Inv w0 Z w' A)) (w := w) (args := [.slice A_a0 a0.length c_a0, .slice A_a1 a1.length c_a1]) (fn := Go.Proofs.Tryz.f31) 26 Go.Proofs.Tryz.func31 (by rfl) Go.Proofs.Tryz.ntmps31 (by kernel_rfl)
 refine e4 ?_
 clear e4
 unfold ref05_Same at h0
 refine cQ (cR [0] ?_)
 refine oP (r := []) [0] (S' := [(0, .slice A_a0 a0.length c_a0), (1, .slice A_a1 a1.length c_a1)]) ?_
 refine oD (qT (cQ (cQ (cR [0, 1, 2, 3, 4] ?_))))
 refine oP (r := []) [0, 1, 2, 3, 4] (S' := [(0, .slice A_a0 a0.length c_a0), (1, .slice A_a1 a1.length c_a1), (10, .bool ((a0.length : Int) != (a1.length : Int)))]) ?_
 refine oD (qT ?_)
 by_cases hb1 : ((a0.length : Int) != (a1.length : Int)) = true
 ·
  rw [if_pos hb1] at h0
  refine cY (b := (a0.length : Int) != (a1.length : Int)) hb1 ?_
  refine cQ (cR [0] ?_)
  refine oP (r := []) [0] (S' := [(4, .bool false)]) ?_
  refine oD (qT (jE (jR ?_)))
  have e := someS h0
  subst e
  refine qK [4] (S' := [(4, .bool false)]) ?_
  exact post_ret (v := .bool false) (fun a ha => jU (vs := [.bool false]) (.tmp (t := 4) (by kernel_rfl) .nil) ha (by kernel_rfl)) ⟨rfl, hI⟩
 ·
  rw [if_neg hb1] at h0
  refine cN (b := (a0.length : Int) != (a1.length : Int)) (by simpa using hb1) ?_
  refine jS (qT (cQ (cQ (cR [0] ?_))))
  refine oP (r := []) [0] (S' := [(0, .slice A_a0 a0.length c_a0), (1, .slice A_a1 a1.length c_a1), (5, iv 0)]) ?_
  refine oD (qT ?_)
  obtain ⟨r1, h1, h0⟩ := bindS h0
  refine CodT.meet1 (fun a w => .inr () = r1 ∧ Fr 26 [] a ∧ Inv w0 Z w A) ?_ ?_
  ·
   refine jB ?_
   refine (fun a ha => wp_loopN (fun k a w => ∃ (x2 : Int), ref05_Same.l0 a0 a1 k x2 = some r1 ∧ Fr 26 [(0, .slice A_a0 a0.length c_a0), (1, .slice A_a1 a1.length c_a1), (5, iv x2)] a ∧ Inv w0 Z w A) ?_ FU a w ⟨0, h1, ha.keep [0, 1, 5] (by kernel_rfl), hI⟩)
   clear h1 hI
   rintro k a w ⟨x2, h1, ha, hI⟩
   rcases k with _ | k
   ·
    cases h1
   simp only [ref05_Same.l0] at h1
   refine CodT.of ?_ ha
   refine cQ (cQ (cR [0, 1, 2, 3] ?_))
   refine oP (r := []) [0, 1, 2, 3] (S' := [(0, .slice A_a0 a0.length c_a0), (1, .slice A_a1 a1.length c_a1), (5, iv x2), (14, .bool (decide (x2 < (a0.length : Int))))]) ?_
   refine oD (qT ?_)
   by_cases hb3 : (decide (x2 < (a0.length : Int))) = true
   ·
    rw [if_pos hb3] at h1
    refine cY (b := decide (x2 < (a0.length : Int))) hb3 ?_
    refine jS (qT (cQ (jB (cQ ?_))))
    refine CodT.drawI (n := 9) [] (by kernel_rfl) (by kernel_rfl) hI ?_
    intro w hI
    refine gP 0 17 (.slice A_a0 a0.length c_a0) ?_
    refine gP 1 18 (iv x2) ?_
    refine gP 4 21 (.slice A_a1 a1.length c_a1) ?_
    refine gP 5 22 (iv x2) ?_
    obtain ⟨hg4, h1⟩ := guardS h1
    obtain ⟨g5, o9, hA6, hr7, hl8⟩ := RdS.get hr_a0 hg4.1 hg4.2
    refine gR (i := 2) 2 (Yl.indexSlice (d := 19) (T := 24) (cc := c_a0) (k := .i64) (j := x2) (g := g5) (o := o9) (by kernel_rfl) Go.Proofs.Tryz.underlying24 ty50 hA6 hg4.1 hg4.2) hI ?_
    refine gR (i := 3) 2 (jL (d := 20) (T := 50) (v := .agg (c_ApiEvent (gt a0 x2)).toArray) (by kernel_rfl) (ldRN ty50 (cs := c_ApiEvent (gt a0 x2)) 0 (fun w hC => hr7 w0 w _ hC) hl8 (whole _ _ hl8))) hI ?_
    obtain ⟨hg10, h1⟩ := guardS h1
    obtain ⟨g11, o15, hA12, hr13, hl14⟩ := RdS.get hr_a1 hg10.1 hg10.2
    refine gR (i := 6) 2 (Yl.indexSlice (d := 23) (T := 24) (cc := c_a1) (k := .i64) (j := x2) (g := g11) (o := o15) (by kernel_rfl) Go.Proofs.Tryz.underlying24 ty50 hA12 hg10.1 hg10.2) hI ?_
    refine gR (i := 7) 2 (jL (d := 24) (T := 50) (v := .agg (c_ApiEvent (gt a1 x2)).toArray) (by kernel_rfl) (ldRN ty50 (cs := c_ApiEvent (gt a1 x2)) 0 (fun w hC => hr13 w0 w _ hC) hl14 (whole _ _ hl14))) hI ?_
    refine gR (i := 8) 2 (Yl.neqS (d := 25) (T := 50) (xs := ([iv ((gt a0 x2).Kind), iv ((gt a0 x2).ID), .string ((gt a0 x2).Name), iv ((gt a0 x2).Time), iv ((gt a0 x2).Len)] : LV) ++ (q8c ((gt a0 x2).Sum))) (ys := ([iv ((gt a1 x2).Kind), iv ((gt a1 x2).ID), .string ((gt a1 x2).Name), iv ((gt a1 x2).Time), iv ((gt a1 x2).Len)] : LV) ++ (q8c ((gt a1 x2).Sum))) (r := eq_ApiEvent (gt a0 x2) (gt a1 x2)) (by kernel_rfl) Go.Proofs.Tryz.underlying50 (by kernel_rfl) (by kernel_rfl) (.cons rfl (part1 (v := iv ((gt a0 x2).Kind)) ty48 (by kernel_rfl)) (part1 (v := iv ((gt a1 x2).Kind)) ty48 (by kernel_rfl)) (eqI Go.Proofs.Tryz.underlying48) (.cons rfl (part1 (v := iv ((gt a0 x2).ID)) ty3 (by kernel_rfl)) (part1 (v := iv ((gt a1 x2).ID)) ty3 (by kernel_rfl)) (eqI Go.Proofs.Tryz.underlying3) (.cons rfl (part1 (v := .string ((gt a0 x2).Name)) ty9 (by kernel_rfl)) (part1 (v := .string ((gt a1 x2).Name)) ty9 (by kernel_rfl)) (eqS Go.Proofs.Tryz.underlying9) (.cons rfl (part1 (v := iv ((gt a0 x2).Time)) ty3 (by kernel_rfl)) (part1 (v := iv ((gt a1 x2).Time)) ty3 (by kernel_rfl)) (eqI Go.Proofs.Tryz.underlying3) (.cons rfl (part1 (v := iv ((gt a0 x2).Len)) ty3 (by kernel_rfl)) (part1 (v := iv ((gt a1 x2).Len)) ty3 (by kernel_rfl)) (eqI Go.Proofs.Tryz.underlying3) (.cons rfl (partN ty23 (tail_take _ _ _ _ _ (by kernel_rfl) (inv_ApiEvent _ hl8))) (partN ty23 (tail_take _ _ _ _ _ (by kernel_rfl) (inv_ApiEvent _ hl14))) (eqAr Go.Proofs.Tryz.underlying23 Go.Proofs.Tryz.underlying5 ty5 (inv_ApiEvent _ hl8) (inv_ApiEvent _ hl14)) .nil))))))) hI ?_
    refine jD (by kernel_rfl) ?_
    refine qT ?_
    by_cases hb16 : (!(eq_ApiEvent (gt a0 x2) (gt a1 x2))) = true
    ·
     rw [if_pos hb16] at h1
     refine cY (b := !(eq_ApiEvent (gt a0 x2) (gt a1 x2))) hb16 ?_
     refine cQ (cR [0] ?_)
     refine oP (r := []) [0] (S' := [(4, .bool false)]) ?_
     refine oD (qT (jE (jQ (jR (jR (jQ (jR (jR ?_))))))))
     have e := someS h1
     subst e
     try dsimp only at h0
     have e := someS h0
     subst e
     refine qK [4] (S' := [(4, .bool false)]) ?_
     exact post_ret (v := .bool false) (fun a ha => jU (vs := [.bool false]) (.tmp (t := 4) (by kernel_rfl) .nil) ha (by kernel_rfl)) ⟨rfl, hI⟩
    ·
     rw [if_neg hb16] at h1
     refine cN (b := !(eq_ApiEvent (gt a0 x2) (gt a1 x2))) (by simpa using hb16) ?_
     refine jS (jN (qT (cR [0, 1, 2] ?_)))
     refine oP (r := []) [0, 1, 2] (S' := [(0, .slice A_a0 a0.length c_a0), (1, .slice A_a1 a1.length c_a1), (5, iv (wi64 (x2 + 1)))]) ?_
     refine oD ?_
     exact jT fun a ha => ⟨k, Nat.lt_succ_self k, wi64 (x2 + 1), h1, ha.keep [0, 1, 5] (by kernel_rfl), hI⟩
   ·
    rw [if_neg hb3] at h1
    refine cN (b := decide (x2 < (a0.length : Int))) (by simpa using hb3) ?_
    refine jZ ?_
    refine jX (jX ?_)
    refine Qn.block ?_
    have e := someS h1
    subst e
    exact jT fun a ha => ⟨rfl, ha.keep [] (by kernel_rfl), hI⟩
  ·
   rintro a w ⟨rfl, ha, hI⟩
   try dsimp only at h0
   refine Qn.of ?_ ha
   refine qT (cQ (cR [0] ?_))
   refine oP (r := []) [0] (S' := [(4, .bool true)]) ?_
   refine oD (qT (jE ?_))
   have e := someS h0
   subst e
   refine qK [4] (S' := [(4, .bool true)]) ?_
   exact post_ret (v := .bool true) (fun a ha => jU (vs := [.bool true]) (.tmp (t := 4) (by kernel_rfl) .nil) ha (by kernel_rfl)) ⟨rfl, hI⟩
/-- cenotaph/cenotaphref11.Same -/
theorem c11 (w0 w : World) (Z : Hp) (A : HP) (hI : Inv w0 Z w A) (hT : Tabs Z) (ud : Int) (ue : (List Int)) (uba : ue.length = 32) (ua : Option Addr) (ui : Nat) (uc : (List ApiEvent)) (ubc : RdS Z c_ApiEvent 37 ua ui uc) (ug : Int) (uh : (List Int)) (ubb : uh.length = 32) (ub : Option Addr) (uj : Nat) (uf : (List ApiEvent)) (ubd : RdS Z c_ApiEvent 37 ub uj uf) (r : Bool) (h0 : ref11_Same ud ue uc ug uh uf = some r) :
  Calls prog 11 #[.agg ((([iv ud] : LV) ++ (q8c ue) ++ ([.slice ua uc.length ui] : LV))).toArray, .agg ((([iv ug] : LV) ++ (q8c uh) ++ ([.slice ub uf.length uj] : LV))).toArray] w (fun e w' => e = .returned (.bool r) ∧ Inv w0 Z w' A) := by
 have e4 := calls_intro (R := (fun e w' => e = .returned (.bool r) ∧ Inv w0 Z w' A)) (w := w) (args := [.agg ((([iv ud] : LV) ++ (q8c ue) ++ ([.slice ua uc.length ui] : LV))).toArray, .agg ((([iv ug] : LV) ++ (q8c uh) ++ ([.slice ub uf.length uj] : LV))).toArray]) (fn := Go.Proofs.Tryz.f11) 24 Go.Proofs.Tryz.func11 (by rfl) Go.Proofs.Tryz.ntmps11 (by kernel_rfl)
 refine e4 ?_
 clear e4
 unfold ref11_Same at h0
 refine cQ (cR [0, 1, 2] ?_)
 refine oC (Does.boxL (d := 2) (T := 32) (v := .agg ((([iv ud] : LV) ++ (q8c ue) ++ ([.slice ua uc.length ui] : LV))).toArray) ((([iv ud] : LV) ++ (q8c ue) ++ ([.slice ua uc.length ui] : LV))) (by kernel_rfl) hI (by kernel_rfl) ?_)
 intro b1 w hI
 refine oC (Does.boxL (d := 3) (T := 32) (v := .agg ((([iv ug] : LV) ++ (q8c uh) ++ ([.slice ub uf.length uj] : LV))).toArray) ((([iv ug] : LV) ++ (q8c uh) ++ ([.slice ub uf.length uj] : LV))) (by kernel_rfl) hI (by kernel_rfl) ?_)
 intro b2 w hI
 refine oP (r := []) [2] (S' := [(2, pb b1), (3, pb b2)]) ?_
 refine oD (qT ?_)
 obtain ⟨r1, h1, h0⟩ := bindS h0
 refine jM (fun a w => ∃ (x3 : Bool), x3 = r1 ∧ Fr 24 [(4, .bool x3)] a ∧ Inv w0 Z w A) ?_ ?_
 ·
  refine cR [0, 1, 2, 3, 4, 5, 6, 7, 8, 9, 10, 11, 12, 13, 14, 15, 16, 17, 18, 19] ?_
  refine oP (r := [1, 2, 3, 4, 5, 6, 7, 8, 9, 10, 11, 12, 13, 14, 15, 16, 17, 18, 19]) [0] (S' := [(2, pb b1), (3, pb b2), (5, pb b1)]) ?_
  refine oC (jY (jL (d := 6) (T := 3) (v := iv ud) (by kernel_rfl) (ldB ty3 (l := (([iv ud] : LV) ++ (q8c ue) ++ ([.slice ua uc.length ui] : LV))) (o := 0) (v := iv ud) (pick2 _ _ _) (by kernel_rfl))) hI ?_)
  refine oP (r := [3, 4, 5, 6, 7, 8, 9, 10, 11, 12, 13, 14, 15, 16, 17, 18, 19]) [2] (S' := [(2, pb b1), (3, pb b2), (6, iv ud), (7, pb b2)]) ?_
  refine oC (jY (jL (d := 8) (T := 3) (v := iv ug) (by kernel_rfl) (ldB ty3 (l := (([iv ug] : LV) ++ (q8c uh) ++ ([.slice ub uf.length uj] : LV))) (o := 0) (v := iv ug) (ent_refl _) (by kernel_rfl))) hI ?_)
  refine oP (r := [6, 7, 8, 9, 10, 11, 12, 13, 14, 15, 16, 17, 18, 19]) [4, 5] (S' := [(2, pb b1), (3, pb b2), (10, .bool (ud == ug))]) ?_
  by_cases hb4 : (ud == ug) = true
  ·
   rw [if_pos hb4] at h1
   refine OpsT.keep [2, 3, 10] (S' := [(2, pb b1), (3, pb b2), (10, .bool true)]) (by (try simp only [hb4]); kernel_rfl) ?_
   refine oP (r := [7, 8, 9, 10, 11, 12, 13, 14, 15, 16, 17, 18, 19]) [6] (S' := [(2, pb b1), (3, pb b2), (10, .bool true), (11, .pointer (some ⟨b1, 1, none⟩))]) ?_
   refine oC (jY (jL (d := 12) (T := 23) (v := .agg (q8c ue).toArray) (by kernel_rfl) (ldBN ty23 (l := (([iv ud] : LV) ++ (q8c ue) ++ ([.slice ua uc.length ui] : LV))) (o := 1) (cs := cA (Value.int .u8) ue) (pick2 _ _ _) ((cA_length _ _).trans uba) (seg_take [([iv ud] : LV), cA (Value.int .u8) ue, ([.slice ua uc.length ui] : LV)] 1 1 (by simp [cA_length, uba]) (by simp [cA_length, uba]) (by simp [cA_length, uba]) (by simp [cA_length, uba])))) hI ?_)
   refine oP (r := [9, 10, 11, 12, 13, 14, 15, 16, 17, 18, 19]) [8] (S' := [(2, pb b1), (3, pb b2), (10, .bool true), (12, .agg (q8c ue).toArray), (13, .pointer (some ⟨b2, 1, none⟩))]) ?_
   refine oC (jY (jL (d := 14) (T := 23) (v := .agg (q8c uh).toArray) (by kernel_rfl) (ldBN ty23 (l := (([iv ug] : LV) ++ (q8c uh) ++ ([.slice ub uf.length uj] : LV))) (o := 1) (cs := cA (Value.int .u8) uh) (ent_refl _) ((cA_length _ _).trans ubb) (seg_take [([iv ug] : LV), cA (Value.int .u8) uh, ([.slice ub uf.length uj] : LV)] 1 1 (by simp [cA_length, ubb]) (by simp [cA_length, ubb]) (by simp [cA_length, ubb]) (by simp [cA_length, ubb])))) hI ?_)
   refine oC (jY (Yl.eqlA (k := .u8) (d := 15) (T := 23) (xs := ue) (ys := uh) (by kernel_rfl) Go.Proofs.Tryz.underlying23 (by kernel_rfl) Go.Proofs.Tryz.underlying5 ty5 uba ubb) hI ?_)
   refine oP (r := [13, 14, 15, 16, 17, 18, 19]) [11, 12] (S' := [(2, pb b1), (3, pb b2), (17, .bool (eqA ue uh))]) ?_
   by_cases hb5 : (eqA ue uh) = true
   ·
    rw [if_pos hb5] at h1
    refine OpsT.keep [2, 3, 17] (S' := [(2, pb b1), (3, pb b2), (17, .bool true)]) (by (try simp only [hb5]); kernel_rfl) ?_
    refine oP (r := [14, 15, 16, 17, 18, 19]) [13] (S' := [(3, pb b2), (17, .bool true), (18, .pointer (some ⟨b1, 33, none⟩))]) ?_
    refine oC (jY (jL (d := 19) (T := 24) (v := .slice ua uc.length ui) (by kernel_rfl) (ldB ty24 (l := (([iv ud] : LV) ++ (q8c ue) ++ ([.slice ua uc.length ui] : LV))) (o := 33) (v := .slice ua uc.length ui) (pick2 _ _ _) (seg_get [([iv ud] : LV), cA (Value.int .u8) ue, ([.slice ua uc.length ui] : LV)] 2 (by simp [cA_length, uba]) (by simp [cA_length, uba]) rfl))) hI ?_)
    refine oP (r := [16, 17, 18, 19]) [15] (S' := [(17, .bool true), (19, .slice ua uc.length ui), (20, .pointer (some ⟨b2, 33, none⟩))]) ?_
    refine oC (jY (jL (d := 21) (T := 24) (v := .slice ub uf.length uj) (by kernel_rfl) (ldB ty24 (l := (([iv ug] : LV) ++ (q8c uh) ++ ([.slice ub uf.length uj] : LV))) (o := 33) (v := .slice ub uf.length uj) (ent_refl _) (seg_get [([iv ug] : LV), cA (Value.int .u8) uh, ([.slice ub uf.length uj] : LV)] 2 (by simp [cA_length, ubb]) (by simp [cA_length, ubb]) rfl))) hI ?_)
    obtain ⟨y7, hc6, h1⟩ := bindS h1
    try dsimp only at h1
    refine oC (jC (d := some 22) (n := 31) (vs := [.slice ua uc.length ui, .slice ub uf.length uj]) (by kernel_rfl) en31 (c31 w0 w _ _ hI hT ua ui uc ubc ub uj uf ubd _ hc6) ?_)
    rintro e w ⟨rfl, hI⟩
    refine ⟨_, rfl, ?_⟩
    refine oP (r := []) [18, 19] (S' := [(4, .bool y7)]) ?_
    refine oD ?_
    have hI := hI.drop
    have hI := hI.drop
    have e := someS h1
    subst e
    exact jT fun a ha => ⟨y7, rfl, ha.keep [4] (by kernel_rfl), hI⟩
   ·
    rw [if_neg hb5] at h1
    have hb5 : (eqA ue uh) = false := by simpa using hb5
    refine OpsT.keep [2, 3, 17] (S' := [(2, pb b1), (3, pb b2), (17, .bool false)]) (by (try simp only [hb5]); kernel_rfl) ?_
    refine oP (r := []) [13, 14, 15, 16, 17, 18, 19] (S' := [(4, .bool false)]) ?_
    refine oD ?_
    have hI := hI.drop
    have hI := hI.drop
    have e := someS h1
    subst e
    exact jT fun a ha => ⟨false, rfl, ha.keep [4] (by kernel_rfl), hI⟩
  ·
   rw [if_neg hb4] at h1
   have hb4 : (ud == ug) = false := by simpa using hb4
   refine OpsT.keep [2, 3, 10] (S' := [(2, pb b1), (3, pb b2), (10, .bool false)]) (by (try simp only [hb4]); kernel_rfl) ?_
   refine oP (r := []) [6, 7, 8, 9, 10, 11, 12, 13, 14, 15, 16, 17, 18, 19] (S' := [(4, .bool false)]) ?_
   refine oD ?_
   have hI := hI.drop
   have hI := hI.drop
   have e := someS h1
   subst e
   exact jT fun a ha => ⟨false, rfl, ha.keep [4] (by kernel_rfl), hI⟩
 ·
  rintro a w ⟨x3, rfl, ha, hI⟩
  try dsimp only at h0
  refine CodT.of ?_ ha
  refine jE ?_
  have e := someS h0
  subst e
  refine qK [4] (S' := [(4, .bool x3)]) ?_
  exact post_ret (v := .bool x3) (fun a ha => jU (vs := [.bool x3]) (.tmp (t := 4) (by kernel_rfl) .nil) ha (by kernel_rfl)) ⟨rfl, hI⟩
/-- cenotaph/cenotaphref05.Digits -/
theorem c34 : ∀ (fk : Nat) (w0 w : World) (Z : Hp) (A : HP) (hI : Inv w0 Z w A) (hT : Tabs Z) (a0 : Int) (r : ByteArray) (h0 : ref05_Digits fk a0 = some r),
  Calls prog 34 #[iv a0] w (fun e w' => e = .returned (.string r) ∧ Inv w0 Z w' A) := by
 intro fk
 induction fk with
 | zero => intro w0 w Z A hI hT a0 r h0; simp [ref05_Digits] at h0
 | succ fk ih =>
 intro w0 w Z A hI hT a0 r h0
 have e4 := calls_intro (R := (fun e w' => e = .returned (.string r) ∧ Inv w0 Z w' A)) (w := w) (args := [iv a0]) (fn := Go.Proofs.Tryz.f34) 18 Go.Proofs.Tryz.func34 (by rfl) Go.Proofs.Tryz.ntmps34 (by kernel_rfl)
 refine e4 ?_
 clear e4
 simp only [ref05_Digits] at h0
 refine cQ (cR [0] ?_)
 refine oP (r := []) [0] (S' := [(0, iv a0)]) ?_
 refine oD (qT (cQ (cR [0, 1, 2, 3, 4, 5, 6] ?_)))
 refine oP (r := [4, 5, 6]) [0, 1, 2, 3] (S' := [(0, iv a0), (7, .int .u8 (wu8 (wi64 (48 + (a0.tmod 10)))))]) ?_
 refine oC (Does.buildSlice (en := (cI .u8)) (d := 8) (n := 1) (T := 52) (ps := [(0, .int .u8 (wu8 (wi64 (48 + (a0.tmod 10)))))]) ([wu8 (wi64 (48 + (a0.tmod 10)))] : List Int) (by kernel_rfl) Go.Proofs.Tryz.underlying52 ty5 (by kernel_rfl) (by kernel_rfl) (by kernel_rfl) (by kernel_rfl) (len_all (fun _ => rfl)) hI ?_)
 intro b1 w hI
 refine oC (Does.b2sOwn (d := 9) (src := 52) (dst := 9) (xs := ([wu8 (wi64 (48 + (a0.tmod 10)))] : List Int)) (by kernel_rfl) Go.Proofs.Tryz.underlying52 Go.Proofs.Tryz.underlying5 Go.Proofs.Tryz.underlying9 hI ?_)
 refine oP (r := []) [6] (S' := [(0, iv a0), (3, .string (strOfNums ([wu8 (wi64 (48 + (a0.tmod 10)))] : List Int)))]) ?_
 refine oD (qT (cQ (cQ (cR [0, 1] ?_))))
 refine oP (r := []) [0, 1] (S' := [(0, iv a0), (3, .string (strOfNums ([wu8 (wi64 (48 + (a0.tmod 10)))] : List Int))), (11, .bool (decide (a0 ≥ 10)))]) ?_
 refine oD (qT ?_)
 by_cases hb2 : (decide (a0 ≥ 10)) = true
 ·
  rw [if_pos hb2] at h0
  refine cY (b := decide (a0 ≥ 10)) hb2 ?_
  refine cQ (cR [0, 1, 2, 3, 4, 5] ?_)
  refine oP (r := [2, 3, 4, 5]) [0, 1] (S' := [(3, .string (strOfNums ([wu8 (wi64 (48 + (a0.tmod 10)))] : List Int))), (13, iv (wi64 (a0.tdiv 10)))]) ?_
  obtain ⟨y4, hc3, h0⟩ := bindS h0
  try dsimp only at h0
  refine oC (jC (d := some 14) (n := 34) (vs := [iv (wi64 (a0.tdiv 10))]) (by kernel_rfl) en34 (ih w0 w _ _ hI hT (wi64 (a0.tdiv 10)) _ hc3) ?_)
  rintro e w ⟨rfl, hI⟩
  refine ⟨_, rfl, ?_⟩
  refine oP (r := [4, 5]) [3] (S' := [(14, .string y4), (15, .string (strOfNums ([wu8 (wi64 (48 + (a0.tmod 10)))] : List Int)))]) ?_
  obtain ⟨hg5, h0⟩ := guardS h0
  refine oC (jY (Yl.cat (d := 16) (T := 9) (x := y4) (y := strOfNums ([wu8 (wi64 (48 + (a0.tmod 10)))] : List Int)) (by kernel_rfl) hg5) hI ?_)
  refine oP (r := []) [5] (S' := [(2, .string (y4 ++ (strOfNums ([wu8 (wi64 (48 + (a0.tmod 10)))] : List Int))))]) ?_
  refine oD (qT (jE (jR ?_)))
  have hI := hI.drop
  have e := someS h0
  subst e
  refine qK [2] (S' := [(2, .string (y4 ++ (strOfNums ([wu8 (wi64 (48 + (a0.tmod 10)))] : List Int))))]) ?_
  exact post_ret (v := .string (y4 ++ (strOfNums ([wu8 (wi64 (48 + (a0.tmod 10)))] : List Int)))) (fun a ha => jU (vs := [.string (y4 ++ (strOfNums ([wu8 (wi64 (48 + (a0.tmod 10)))] : List Int)))]) (.tmp (t := 2) (by kernel_rfl) .nil) ha (by kernel_rfl)) ⟨rfl, hI⟩
 ·
  rw [if_neg hb2] at h0
  refine cN (b := decide (a0 ≥ 10)) (by simpa using hb2) ?_
  refine jS (qT (cQ (cR [0, 1] ?_)))
  refine oP (r := []) [0, 1] (S' := [(2, .string (strOfNums ([wu8 (wi64 (48 + (a0.tmod 10)))] : List Int)))]) ?_
  refine oD (qT (jE ?_))
  have hI := hI.drop
  have e := someS h0
  subst e
  refine qK [2] (S' := [(2, .string (strOfNums ([wu8 (wi64 (48 + (a0.tmod 10)))] : List Int)))]) ?_
  exact post_ret (v := .string (strOfNums ([wu8 (wi64 (48 + (a0.tmod 10)))] : List Int))) (fun a ha => jU (vs := [.string (strOfNums ([wu8 (wi64 (48 + (a0.tmod 10)))] : List Int))]) (.tmp (t := 2) (by kernel_rfl) .nil) ha (by kernel_rfl)) ⟨rfl, hI⟩
end Go.Cen
