/- That the machine computes these: walks, printed by a program of ours. -/
import Derived.Test.YtlojedndicppeaaGreatDoorPx
import Derived.Test.YtlojedndicppeaaGreatDoorWx4
set_option linter.unusedVariables false
set_option linter.unusedSimpArgs false
namespace Go.Cen
set_option maxRecDepth 100000
set_option maxHeartbeats 4000000
/-- cenotaph/cenotaphref03.Quote -/
theorem c58 (w0 w : World) (Z : Hp) (A : HP) (hI : Inv w0 Z w A) (hT : Tabs Z) (a0 : ByteArray) (r : ByteArray) (h0 : ref03_Quote a0 = some r) :
  Calls prog 58 #[.string a0] w (fun e w' => e = .returned (.string r) ∧ Inv w0 Z w' A) := by
 have e4 := calls_intro (R := (fun e w' => e = .returned (.string r) ∧ Inv w0 Z w' A)) (w := w) (args := [.string a0]) (fn := Go.Proofs.Tryz.f58) 91 Go.Proofs.Tryz.func58 (by rfl) Go.Proofs.Tryz.ntmps58 (by kernel_rfl)
 refine e4 ?_
 clear e4
 unfold ref03_Quote at h0
 refine cQ (cR [0] ?_)
 refine oP (r := []) [0] (S' := [(0, .string a0)]) ?_
 refine oD (qT (cQ (cR [0] ?_)))
 refine oP (r := []) [0] (S' := [(0, .string a0), (3, .string (⟨#[48, 49, 50, 51, 52, 53, 54, 55, 56, 57, 97, 98, 99, 100, 101, 102]⟩ : ByteArray))]) ?_
 refine oD (qT (cQ (cR [0, 1, 2] ?_)))
 refine oC (Does.buildSlice (en := (cI .u8)) (d := 10) (n := 1) (T := 52) (ps := [(0, .int .u8 92)]) ([92] : List Int) (by kernel_rfl) Go.Proofs.Tryz.underlying52 ty5 (by kernel_rfl) (by kernel_rfl) (by kernel_rfl) (by kernel_rfl) (len_all (fun _ => rfl)) hI ?_)
 intro b1 w hI
 refine oC (Does.b2sOwn (d := 11) (src := 52) (dst := 9) (xs := ([92] : List Int)) (by kernel_rfl) Go.Proofs.Tryz.underlying52 Go.Proofs.Tryz.underlying5 Go.Proofs.Tryz.underlying9 hI ?_)
 refine oP (r := []) [2] (S' := [(0, .string a0), (3, .string (⟨#[48, 49, 50, 51, 52, 53, 54, 55, 56, 57, 97, 98, 99, 100, 101, 102]⟩ : ByteArray)), (4, .string (strOfNums ([92] : List Int)))]) ?_
 refine oD (qT (cQ (cR [0, 1, 2] ?_)))
 refine oC (Does.buildSlice (en := (cI .u8)) (d := 12) (n := 1) (T := 52) (ps := [(0, .int .u8 34)]) ([34] : List Int) (by kernel_rfl) Go.Proofs.Tryz.underlying52 ty5 (by kernel_rfl) (by kernel_rfl) (by kernel_rfl) (by kernel_rfl) (len_all (fun _ => rfl)) hI ?_)
 intro b2 w hI
 refine oC (Does.b2sOwn (d := 13) (src := 52) (dst := 9) (xs := ([34] : List Int)) (by kernel_rfl) Go.Proofs.Tryz.underlying52 Go.Proofs.Tryz.underlying5 Go.Proofs.Tryz.underlying9 hI ?_)
 refine oP (r := []) [2] (S' := [(0, .string a0), (3, .string (⟨#[48, 49, 50, 51, 52, 53, 54, 55, 56, 57, 97, 98, 99, 100, 101, 102]⟩ : ByteArray)), (4, .string (strOfNums ([92] : List Int))), (5, .string (strOfNums ([34] : List Int)))]) ?_
 refine oD (qT (cQ (cQ (cR [0] ?_))))
 refine oP (r := []) [0] (S' := [(0, .string a0), (3, .string (⟨#[48, 49, 50, 51, 52, 53, 54, 55, 56, 57, 97, 98, 99, 100, 101, 102]⟩ : ByteArray)), (4, .string (strOfNums ([92] : List Int))), (5, .string (strOfNums ([34] : List Int))), (6, iv 0)]) ?_
 refine oD (qT ?_)
 obtain ⟨r1, h1, h0⟩ := bindS h0
 refine CodT.meet1 (fun a w => ∃ (x3 : ByteArray), x3 = r1 ∧ Fr 91 [(5, .string x3)] a ∧ Inv w0 Z w A) ?_ ?_
 ·
  refine jB ?_
  have hI := hI.drop
  have hI := hI.drop
  refine (fun a ha => wp_loopN (fun k a w => ∃ (x4 : ByteArray) (x5 : Int), ref03_Quote.l0 a0 k x4 x5 = some r1 ∧ Fr 91 [(0, .string a0), (3, .string (⟨#[48, 49, 50, 51, 52, 53, 54, 55, 56, 57, 97, 98, 99, 100, 101, 102]⟩ : ByteArray)), (4, .string (strOfNums ([92] : List Int))), (5, .string x4), (6, iv x5)] a ∧ Inv w0 Z w A) ?_ FU a w ⟨strOfNums ([34] : List Int), 0, h1, ha.keep [0, 3, 4, 5, 6] (by kernel_rfl), hI⟩)
  clear h1 hI
  rintro k a w ⟨x4, x5, h1, ha, hI⟩
  rcases k with _ | k
  ·
   cases h1
  simp only [ref03_Quote.l0] at h1
  refine CodT.of ?_ ha
  refine cQ (cQ (cR [0, 1, 2, 3] ?_))
  refine oP (r := []) [0, 1, 2, 3] (S' := [(0, .string a0), (3, .string (⟨#[48, 49, 50, 51, 52, 53, 54, 55, 56, 57, 97, 98, 99, 100, 101, 102]⟩ : ByteArray)), (4, .string (strOfNums ([92] : List Int))), (5, .string x4), (6, iv x5), (17, .bool (decide (x5 < (a0.size : Int))))]) ?_
  refine oD (qT ?_)
  by_cases hb6 : (decide (x5 < (a0.size : Int))) = true
  ·
   rw [if_pos hb6] at h1
   refine cY (b := decide (x5 < (a0.size : Int))) hb6 ?_
   refine jS (qT (jB (cQ (cR [0, 1, 2, 3, 4, 5, 6, 7, 8] ?_))))
   refine oP (r := [2, 3, 4, 5, 6, 7, 8]) [0, 1] (S' := [(0, .string a0), (3, .string (⟨#[48, 49, 50, 51, 52, 53, 54, 55, 56, 57, 97, 98, 99, 100, 101, 102]⟩ : ByteArray)), (4, .string (strOfNums ([92] : List Int))), (5, .string x4), (6, iv x5), (19, .string a0), (20, iv x5)]) ?_
   obtain ⟨hg7, h1⟩ := guardS h1
   refine oC (jY (Yl.sliceStr10 (d := 21) (T := 9) (s := a0) (lo := x5) (by kernel_rfl) Go.Proofs.Tryz.underlying9 hg7) hI ?_)
   obtain ⟨⟨y9, y10⟩, hc8, h1⟩ := bindS h1
   try dsimp only at h1
   refine oC (jC (d := some 22) (n := 77) (vs := [.string (sx a0 x5 (a0.size : Int))]) (by kernel_rfl) en77 (c77 w0 w _ _ hI hT (sx a0 x5 (a0.size : Int)) _ hc8) ?_)
   rintro e w ⟨rfl, hI⟩
   refine ⟨_, rfl, ?_⟩
   refine oP (r := []) [4, 5, 6, 7, 8] (S' := [(0, .string a0), (3, .string (⟨#[48, 49, 50, 51, 52, 53, 54, 55, 56, 57, 97, 98, 99, 100, 101, 102]⟩ : ByteArray)), (4, .string (strOfNums ([92] : List Int))), (5, .string x4), (6, iv x5), (7, iv y9), (8, iv y10)]) ?_
   refine oD (qT (cQ (cR [0, 1, 2, 3, 4] ?_)))
   refine oP (r := [2, 3, 4]) [0, 1] (S' := [(0, .string a0), (3, .string (⟨#[48, 49, 50, 51, 52, 53, 54, 55, 56, 57, 97, 98, 99, 100, 101, 102]⟩ : ByteArray)), (4, .string (strOfNums ([92] : List Int))), (5, .string x4), (6, iv x5), (7, iv y9), (8, iv y10), (25, .string a0), (26, iv x5)]) ?_
   obtain ⟨hg11, h1⟩ := guardS h1
   refine oC (jY (Yl.indexStr (d := 27) (T := 9) (k := .i64) (j := x5) (s := a0) (by kernel_rfl) Go.Proofs.Tryz.underlying9 hg11.1 hg11.2) hI ?_)
   refine oP (r := []) [3, 4] (S' := [(0, .string a0), (3, .string (⟨#[48, 49, 50, 51, 52, 53, 54, 55, 56, 57, 97, 98, 99, 100, 101, 102]⟩ : ByteArray)), (4, .string (strOfNums ([92] : List Int))), (5, .string x4), (6, iv x5), (7, iv y9), (8, iv y10), (9, iv (wi64 (bt a0 x5)))]) ?_
   refine oD (qT ?_)
   obtain ⟨r2, h2, h1⟩ := bindS h1
   refine jM (fun a w => ∃ (x12 : ByteArray), x12 = r2 ∧ Fr 91 [(0, .string a0), (3, .string (⟨#[48, 49, 50, 51, 52, 53, 54, 55, 56, 57, 97, 98, 99, 100, 101, 102]⟩ : ByteArray)), (4, .string (strOfNums ([92] : List Int))), (5, .string x12), (6, iv x5), (8, iv y10)] a ∧ Inv w0 Z w A) ?_ ?_
   ·
    obtain ⟨r3, h3, h2⟩ := bindS h2
    refine jM (fun a w => ∃ (x13 : Bool), x13 = r3 ∧ Fr 91 [(0, .string a0), (3, .string (⟨#[48, 49, 50, 51, 52, 53, 54, 55, 56, 57, 97, 98, 99, 100, 101, 102]⟩ : ByteArray)), (4, .string (strOfNums ([92] : List Int))), (5, .string x4), (6, iv x5), (7, iv y9), (8, iv y10), (9, iv (wi64 (bt a0 x5))), (34, .bool x13)] a ∧ Inv w0 Z w A) ?_ ?_
    ·
     refine cR [0, 1, 2, 3, 4, 5] ?_
     refine oP (r := [3, 4, 5]) [0, 1, 2] (S' := [(0, .string a0), (3, .string (⟨#[48, 49, 50, 51, 52, 53, 54, 55, 56, 57, 97, 98, 99, 100, 101, 102]⟩ : ByteArray)), (4, .string (strOfNums ([92] : List Int))), (5, .string x4), (6, iv x5), (7, iv y9), (8, iv y10), (9, iv (wi64 (bt a0 x5))), (31, .bool (y9 == 34))]) ?_
     by_cases hb14 : (y9 == 34) = true
     ·
      rw [if_pos hb14] at h3
      refine OpsT.keep [0, 3, 4, 5, 6, 7, 8, 9, 31] (S' := [(0, .string a0), (3, .string (⟨#[48, 49, 50, 51, 52, 53, 54, 55, 56, 57, 97, 98, 99, 100, 101, 102]⟩ : ByteArray)), (4, .string (strOfNums ([92] : List Int))), (5, .string x4), (6, iv x5), (7, iv y9), (8, iv y10), (9, iv (wi64 (bt a0 x5))), (31, .bool true)]) (by (try simp only [hb14]); kernel_rfl) ?_
      refine oP (r := []) [3, 4, 5] (S' := [(0, .string a0), (3, .string (⟨#[48, 49, 50, 51, 52, 53, 54, 55, 56, 57, 97, 98, 99, 100, 101, 102]⟩ : ByteArray)), (4, .string (strOfNums ([92] : List Int))), (5, .string x4), (6, iv x5), (7, iv y9), (8, iv y10), (9, iv (wi64 (bt a0 x5))), (34, .bool true)]) ?_
      refine oD ?_
      have e := someS h3
      subst e
      exact jT fun a ha => ⟨true, rfl, ha.keep [0, 3, 4, 5, 6, 7, 8, 9, 34] (by kernel_rfl), hI⟩
     ·
      rw [if_neg hb14] at h3
      have hb14 : (y9 == 34) = false := by simpa using hb14
      refine OpsT.keep [0, 3, 4, 5, 6, 7, 8, 9, 31] (S' := [(0, .string a0), (3, .string (⟨#[48, 49, 50, 51, 52, 53, 54, 55, 56, 57, 97, 98, 99, 100, 101, 102]⟩ : ByteArray)), (4, .string (strOfNums ([92] : List Int))), (5, .string x4), (6, iv x5), (7, iv y9), (8, iv y10), (9, iv (wi64 (bt a0 x5))), (31, .bool false)]) (by (try simp only [hb14]); kernel_rfl) ?_
      refine oP (r := []) [3, 4, 5] (S' := [(0, .string a0), (3, .string (⟨#[48, 49, 50, 51, 52, 53, 54, 55, 56, 57, 97, 98, 99, 100, 101, 102]⟩ : ByteArray)), (4, .string (strOfNums ([92] : List Int))), (5, .string x4), (6, iv x5), (7, iv y9), (8, iv y10), (9, iv (wi64 (bt a0 x5))), (34, .bool (y9 == 92))]) ?_
      refine oD ?_
      have e := someS h3
      subst e
      exact jT fun a ha => ⟨y9 == 92, rfl, ha.keep [0, 3, 4, 5, 6, 7, 8, 9, 34] (by kernel_rfl), hI⟩
    ·
     rintro a w ⟨x13, rfl, ha, hI⟩
     try dsimp only at h2
     refine CodT.of ?_ ha
     by_cases hb15 : x13 = true
     ·
      rw [if_pos hb15] at h2
      refine cY (b := x13) hb15 ?_
      refine cR [0, 1, 2, 3, 4, 5, 6, 7, 8, 9] ?_
      refine oP (r := [2, 3, 4, 5, 6, 7, 8, 9]) [0, 1] (S' := [(0, .string a0), (3, .string (⟨#[48, 49, 50, 51, 52, 53, 54, 55, 56, 57, 97, 98, 99, 100, 101, 102]⟩ : ByteArray)), (4, .string (strOfNums ([92] : List Int))), (6, iv x5), (8, iv y10), (35, .string x4), (36, .string (strOfNums ([92] : List Int)))]) ?_
      obtain ⟨hg16, h2⟩ := guardS h2
      refine oC (jY (Yl.cat (d := 37) (T := 9) (x := x4) (y := strOfNums ([92] : List Int)) (by kernel_rfl) hg16) hI ?_)
      refine oP (r := [7, 8, 9]) [3, 4, 5, 6] (S' := [(0, .string a0), (3, .string (⟨#[48, 49, 50, 51, 52, 53, 54, 55, 56, 57, 97, 98, 99, 100, 101, 102]⟩ : ByteArray)), (4, .string (strOfNums ([92] : List Int))), (6, iv x5), (8, iv y10), (37, .string (x4 ++ (strOfNums ([92] : List Int)))), (38, .string a0), (39, iv x5), (41, iv (wi64 (x5 + 1)))]) ?_
      obtain ⟨hg17, h2⟩ := guardS h2
      refine oC (jY (Yl.sliceStr11 (d := 42) (T := 9) (s := a0) (lo := x5) (hi := wi64 (x5 + 1)) (by kernel_rfl) Go.Proofs.Tryz.underlying9 hg17) hI ?_)
      obtain ⟨hg18, h2⟩ := guardS h2
      refine oC (jY (Yl.cat (d := 43) (T := 9) (x := x4 ++ (strOfNums ([92] : List Int))) (y := sx a0 x5 (wi64 (x5 + 1))) (by kernel_rfl) hg18) hI ?_)
      refine oP (r := []) [9] (S' := [(0, .string a0), (3, .string (⟨#[48, 49, 50, 51, 52, 53, 54, 55, 56, 57, 97, 98, 99, 100, 101, 102]⟩ : ByteArray)), (4, .string (strOfNums ([92] : List Int))), (5, .string ((x4 ++ (strOfNums ([92] : List Int))) ++ (sx a0 x5 (wi64 (x5 + 1))))), (6, iv x5), (8, iv y10)]) ?_
      refine oD ?_
      have e := someS h2
      subst e
      exact jT fun a ha => ⟨(x4 ++ (strOfNums ([92] : List Int))) ++ (sx a0 x5 (wi64 (x5 + 1))), rfl, ha.keep [0, 3, 4, 5, 6, 8] (by kernel_rfl), hI⟩
     ·
      rw [if_neg hb15] at h2
      refine cN (b := x13) (by simpa using hb15) ?_
      refine cQ (cR [0, 1] ?_)
      refine oP (r := []) [0, 1] (S' := [(0, .string a0), (3, .string (⟨#[48, 49, 50, 51, 52, 53, 54, 55, 56, 57, 97, 98, 99, 100, 101, 102]⟩ : ByteArray)), (4, .string (strOfNums ([92] : List Int))), (5, .string x4), (6, iv x5), (7, iv y9), (8, iv y10), (9, iv (wi64 (bt a0 x5))), (45, .bool (y9 == 10))]) ?_
      refine oD (qT ?_)
      by_cases hb19 : (y9 == 10) = true
      ·
       rw [if_pos hb19] at h2
       refine cY (b := y9 == 10) hb19 ?_
       refine cR [0, 1, 2, 3, 4] ?_
       refine oP (r := [2, 3, 4]) [0, 1] (S' := [(0, .string a0), (3, .string (⟨#[48, 49, 50, 51, 52, 53, 54, 55, 56, 57, 97, 98, 99, 100, 101, 102]⟩ : ByteArray)), (4, .string (strOfNums ([92] : List Int))), (6, iv x5), (8, iv y10), (46, .string x4), (47, .string (strOfNums ([92] : List Int)))]) ?_
       obtain ⟨hg20, h2⟩ := guardS h2
       refine oC (jY (Yl.cat (d := 48) (T := 9) (x := x4) (y := strOfNums ([92] : List Int)) (by kernel_rfl) hg20) hI ?_)
       obtain ⟨hg21, h2⟩ := guardS h2
       refine oC (jY (Yl.cat (d := 49) (T := 9) (x := x4 ++ (strOfNums ([92] : List Int))) (y := (⟨#[110]⟩ : ByteArray)) (by kernel_rfl) hg21) hI ?_)
       refine oP (r := []) [4] (S' := [(0, .string a0), (3, .string (⟨#[48, 49, 50, 51, 52, 53, 54, 55, 56, 57, 97, 98, 99, 100, 101, 102]⟩ : ByteArray)), (4, .string (strOfNums ([92] : List Int))), (5, .string ((x4 ++ (strOfNums ([92] : List Int))) ++ (⟨#[110]⟩ : ByteArray))), (6, iv x5), (8, iv y10)]) ?_
       refine oD ?_
       have e := someS h2
       subst e
       exact jT fun a ha => ⟨(x4 ++ (strOfNums ([92] : List Int))) ++ (⟨#[110]⟩ : ByteArray), rfl, ha.keep [0, 3, 4, 5, 6, 8] (by kernel_rfl), hI⟩
      ·
       rw [if_neg hb19] at h2
       refine cN (b := y9 == 10) (by simpa using hb19) ?_
       obtain ⟨r3, h3, h2⟩ := bindS h2
       refine jM (fun a w => ∃ (x22 : Bool), x22 = r3 ∧ Fr 91 [(0, .string a0), (3, .string (⟨#[48, 49, 50, 51, 52, 53, 54, 55, 56, 57, 97, 98, 99, 100, 101, 102]⟩ : ByteArray)), (4, .string (strOfNums ([92] : List Int))), (5, .string x4), (6, iv x5), (8, iv y10), (9, iv (wi64 (bt a0 x5))), (55, .bool x22)] a ∧ Inv w0 Z w A) ?_ ?_
       ·
        refine cR [0, 1, 2, 3, 4, 5] ?_
        refine oP (r := [3, 4, 5]) [0, 1, 2] (S' := [(0, .string a0), (3, .string (⟨#[48, 49, 50, 51, 52, 53, 54, 55, 56, 57, 97, 98, 99, 100, 101, 102]⟩ : ByteArray)), (4, .string (strOfNums ([92] : List Int))), (5, .string x4), (6, iv x5), (7, iv y9), (8, iv y10), (9, iv (wi64 (bt a0 x5))), (52, .bool (decide (y9 ≥ 32)))]) ?_
        by_cases hb23 : (decide (y9 ≥ 32)) = true
        ·
         rw [if_pos hb23] at h3
         refine OpsT.keep [0, 3, 4, 5, 6, 7, 8, 9, 52] (S' := [(0, .string a0), (3, .string (⟨#[48, 49, 50, 51, 52, 53, 54, 55, 56, 57, 97, 98, 99, 100, 101, 102]⟩ : ByteArray)), (4, .string (strOfNums ([92] : List Int))), (5, .string x4), (6, iv x5), (7, iv y9), (8, iv y10), (9, iv (wi64 (bt a0 x5))), (52, .bool true)]) (by (try simp only [hb23]); kernel_rfl) ?_
         refine oP (r := []) [3, 4, 5] (S' := [(0, .string a0), (3, .string (⟨#[48, 49, 50, 51, 52, 53, 54, 55, 56, 57, 97, 98, 99, 100, 101, 102]⟩ : ByteArray)), (4, .string (strOfNums ([92] : List Int))), (5, .string x4), (6, iv x5), (8, iv y10), (9, iv (wi64 (bt a0 x5))), (55, .bool (y9 != 127))]) ?_
         refine oD ?_
         have e := someS h3
         subst e
         exact jT fun a ha => ⟨y9 != 127, rfl, ha.keep [0, 3, 4, 5, 6, 8, 9, 55] (by kernel_rfl), hI⟩
        ·
         rw [if_neg hb23] at h3
         have hb23 : (decide (y9 ≥ 32)) = false := by simpa using hb23
         refine OpsT.keep [0, 3, 4, 5, 6, 7, 8, 9, 52] (S' := [(0, .string a0), (3, .string (⟨#[48, 49, 50, 51, 52, 53, 54, 55, 56, 57, 97, 98, 99, 100, 101, 102]⟩ : ByteArray)), (4, .string (strOfNums ([92] : List Int))), (5, .string x4), (6, iv x5), (7, iv y9), (8, iv y10), (9, iv (wi64 (bt a0 x5))), (52, .bool false)]) (by (try simp only [hb23]); kernel_rfl) ?_
         refine oP (r := []) [3, 4, 5] (S' := [(0, .string a0), (3, .string (⟨#[48, 49, 50, 51, 52, 53, 54, 55, 56, 57, 97, 98, 99, 100, 101, 102]⟩ : ByteArray)), (4, .string (strOfNums ([92] : List Int))), (5, .string x4), (6, iv x5), (8, iv y10), (9, iv (wi64 (bt a0 x5))), (55, .bool false)]) ?_
         refine oD ?_
         have e := someS h3
         subst e
         exact jT fun a ha => ⟨false, rfl, ha.keep [0, 3, 4, 5, 6, 8, 9, 55] (by kernel_rfl), hI⟩
       ·
        rintro a w ⟨x22, rfl, ha, hI⟩
        try dsimp only at h2
        refine CodT.of ?_ ha
        by_cases hb24 : x22 = true
        ·
         rw [if_pos hb24] at h2
         refine cY (b := x22) hb24 ?_
         refine cR [0, 1, 2, 3, 4, 5, 6, 7, 8] ?_
         refine oP (r := [6, 7, 8]) [0, 1, 2, 3, 4, 5] (S' := [(0, .string a0), (3, .string (⟨#[48, 49, 50, 51, 52, 53, 54, 55, 56, 57, 97, 98, 99, 100, 101, 102]⟩ : ByteArray)), (4, .string (strOfNums ([92] : List Int))), (6, iv x5), (8, iv y10), (56, .string x4), (57, .string a0), (58, iv x5), (61, iv (wi64 (x5 + y10)))]) ?_
         obtain ⟨hg25, h2⟩ := guardS h2
         refine oC (jY (Yl.sliceStr11 (d := 62) (T := 9) (s := a0) (lo := x5) (hi := wi64 (x5 + y10)) (by kernel_rfl) Go.Proofs.Tryz.underlying9 hg25) hI ?_)
         obtain ⟨hg26, h2⟩ := guardS h2
         refine oC (jY (Yl.cat (d := 63) (T := 9) (x := x4) (y := sx a0 x5 (wi64 (x5 + y10))) (by kernel_rfl) hg26) hI ?_)
         refine oP (r := []) [8] (S' := [(0, .string a0), (3, .string (⟨#[48, 49, 50, 51, 52, 53, 54, 55, 56, 57, 97, 98, 99, 100, 101, 102]⟩ : ByteArray)), (4, .string (strOfNums ([92] : List Int))), (5, .string (x4 ++ (sx a0 x5 (wi64 (x5 + y10))))), (6, iv x5), (8, iv y10)]) ?_
         refine oD ?_
         have e := someS h2
         subst e
         exact jT fun a ha => ⟨x4 ++ (sx a0 x5 (wi64 (x5 + y10))), rfl, ha.keep [0, 3, 4, 5, 6, 8] (by kernel_rfl), hI⟩
        ·
         rw [if_neg hb24] at h2
         refine cN (b := x22) (by simpa using hb24) ?_
         refine CodT.drawI (n := 21) [] (by kernel_rfl) (by kernel_rfl) hI ?_
         intro w hI
         refine gP 0 64 (.string x4) ?_
         refine gP 1 65 (.string (strOfNums ([92] : List Int))) ?_
         refine gP 4 68 (.string (⟨#[48, 49, 50, 51, 52, 53, 54, 55, 56, 57, 97, 98, 99, 100, 101, 102]⟩ : ByteArray)) ?_
         refine gP 5 69 (iv (wi64 (bt a0 x5))) ?_
         refine gP 6 70 (iv (wi64 ((wi64 (bt a0 x5)).tdiv 16))) ?_
         refine gP 7 71 (iv (wi64 (bt a0 x5))) ?_
         refine gP 8 72 (iv (wi64 ((wi64 (bt a0 x5)).tdiv 16))) ?_
         refine gP 9 73 (iv (wi64 ((wi64 ((wi64 (bt a0 x5)).tdiv 16)) + 1))) ?_
         refine gP 12 76 (.string (⟨#[48, 49, 50, 51, 52, 53, 54, 55, 56, 57, 97, 98, 99, 100, 101, 102]⟩ : ByteArray)) ?_
         refine gP 13 77 (iv (wi64 (bt a0 x5))) ?_
         refine gP 14 78 (iv ((wi64 (bt a0 x5)).tmod 16)) ?_
         refine gP 15 79 (iv (wi64 (bt a0 x5))) ?_
         refine gP 16 80 (iv ((wi64 (bt a0 x5)).tmod 16)) ?_
         refine gP 17 81 (iv (wi64 (((wi64 (bt a0 x5)).tmod 16) + 1))) ?_
         obtain ⟨hg27, h2⟩ := guardS h2
         refine gR (i := 2) 2 (Yl.cat (d := 66) (T := 9) (x := x4) (y := strOfNums ([92] : List Int)) (by kernel_rfl) hg27) hI ?_
         obtain ⟨hg28, h2⟩ := guardS h2
         refine gR (i := 3) 2 (Yl.cat (d := 67) (T := 9) (x := x4 ++ (strOfNums ([92] : List Int))) (y := (⟨#[120]⟩ : ByteArray)) (by kernel_rfl) hg28) hI ?_
         obtain ⟨hg29, h2⟩ := guardS h2
         refine gR (i := 10) 2 (Yl.sliceStr11 (d := 74) (T := 9) (s := (⟨#[48, 49, 50, 51, 52, 53, 54, 55, 56, 57, 97, 98, 99, 100, 101, 102]⟩ : ByteArray)) (lo := wi64 ((wi64 (bt a0 x5)).tdiv 16)) (hi := wi64 ((wi64 ((wi64 (bt a0 x5)).tdiv 16)) + 1)) (by kernel_rfl) Go.Proofs.Tryz.underlying9 hg29) hI ?_
         obtain ⟨hg30, h2⟩ := guardS h2
         refine gR (i := 11) 2 (Yl.cat (d := 75) (T := 9) (x := (x4 ++ (strOfNums ([92] : List Int))) ++ (⟨#[120]⟩ : ByteArray)) (y := sx (⟨#[48, 49, 50, 51, 52, 53, 54, 55, 56, 57, 97, 98, 99, 100, 101, 102]⟩ : ByteArray) (wi64 ((wi64 (bt a0 x5)).tdiv 16)) (wi64 ((wi64 ((wi64 (bt a0 x5)).tdiv 16)) + 1))) (by kernel_rfl) hg30) hI ?_
         obtain ⟨hg31, h2⟩ := guardS h2
         refine gR (i := 18) 2 (Yl.sliceStr11 (d := 82) (T := 9) (s := (⟨#[48, 49, 50, 51, 52, 53, 54, 55, 56, 57, 97, 98, 99, 100, 101, 102]⟩ : ByteArray)) (lo := (wi64 (bt a0 x5)).tmod 16) (hi := wi64 (((wi64 (bt a0 x5)).tmod 16) + 1)) (by kernel_rfl) Go.Proofs.Tryz.underlying9 hg31) hI ?_
         obtain ⟨hg32, h2⟩ := guardS h2
         refine gR (i := 19) 2 (Yl.cat (d := 83) (T := 9) (x := ((x4 ++ (strOfNums ([92] : List Int))) ++ (⟨#[120]⟩ : ByteArray)) ++ (sx (⟨#[48, 49, 50, 51, 52, 53, 54, 55, 56, 57, 97, 98, 99, 100, 101, 102]⟩ : ByteArray) (wi64 ((wi64 (bt a0 x5)).tdiv 16)) (wi64 ((wi64 ((wi64 (bt a0 x5)).tdiv 16)) + 1)))) (y := sx (⟨#[48, 49, 50, 51, 52, 53, 54, 55, 56, 57, 97, 98, 99, 100, 101, 102]⟩ : ByteArray) ((wi64 (bt a0 x5)).tmod 16) (wi64 (((wi64 (bt a0 x5)).tmod 16) + 1))) (by kernel_rfl) hg32) hI ?_
         refine gP 20 5 (.string ((((x4 ++ (strOfNums ([92] : List Int))) ++ (⟨#[120]⟩ : ByteArray)) ++ (sx (⟨#[48, 49, 50, 51, 52, 53, 54, 55, 56, 57, 97, 98, 99, 100, 101, 102]⟩ : ByteArray) (wi64 ((wi64 (bt a0 x5)).tdiv 16)) (wi64 ((wi64 ((wi64 (bt a0 x5)).tdiv 16)) + 1)))) ++ (sx (⟨#[48, 49, 50, 51, 52, 53, 54, 55, 56, 57, 97, 98, 99, 100, 101, 102]⟩ : ByteArray) ((wi64 (bt a0 x5)).tmod 16) (wi64 (((wi64 (bt a0 x5)).tmod 16) + 1))))) ?_
         refine jD (by kernel_rfl) ?_
         have e := someS h2
         subst e
         exact jT fun a ha => ⟨(((x4 ++ (strOfNums ([92] : List Int))) ++ (⟨#[120]⟩ : ByteArray)) ++ (sx (⟨#[48, 49, 50, 51, 52, 53, 54, 55, 56, 57, 97, 98, 99, 100, 101, 102]⟩ : ByteArray) (wi64 ((wi64 (bt a0 x5)).tdiv 16)) (wi64 ((wi64 ((wi64 (bt a0 x5)).tdiv 16)) + 1)))) ++ (sx (⟨#[48, 49, 50, 51, 52, 53, 54, 55, 56, 57, 97, 98, 99, 100, 101, 102]⟩ : ByteArray) ((wi64 (bt a0 x5)).tmod 16) (wi64 (((wi64 (bt a0 x5)).tmod 16) + 1))), rfl, ha.keep [0, 3, 4, 5, 6, 8] (by kernel_rfl), hI⟩
   ·
    rintro a w ⟨x12, rfl, ha, hI⟩
    try dsimp only at h1
    refine CodT.of ?_ ha
    refine cR [0, 1, 2, 3] ?_
    refine oP (r := []) [0, 1, 2, 3] (S' := [(0, .string a0), (3, .string (⟨#[48, 49, 50, 51, 52, 53, 54, 55, 56, 57, 97, 98, 99, 100, 101, 102]⟩ : ByteArray)), (4, .string (strOfNums ([92] : List Int))), (5, .string x12), (6, iv (wi64 (x5 + y10)))]) ?_
    refine oD (jN ?_)
    exact jT fun a ha => ⟨k, Nat.lt_succ_self k, x12, wi64 (x5 + y10), h1, ha.keep [0, 3, 4, 5, 6] (by kernel_rfl), hI⟩
  ·
   rw [if_neg hb6] at h1
   refine cN (b := decide (x5 < (a0.size : Int))) (by simpa using hb6) ?_
   refine jZ ?_
   refine jX (jX ?_)
   refine Qn.block ?_
   have e := someS h1
   subst e
   exact jT fun a ha => ⟨x4, rfl, ha.keep [5] (by kernel_rfl), hI⟩
 ·
  rintro a w ⟨x3, rfl, ha, hI⟩
  try dsimp only at h0
  refine Qn.of ?_ ha
  refine qT (cQ (cR [0, 1, 2, 3, 4] ?_))
  refine oP (r := [1, 2, 3, 4]) [0] (S' := [(87, .string x3)]) ?_
  refine oC (Does.buildSlice (en := (cI .u8)) (d := 88) (n := 1) (T := 52) (ps := [(0, .int .u8 34)]) ([34] : List Int) (by kernel_rfl) Go.Proofs.Tryz.underlying52 ty5 (by kernel_rfl) (by kernel_rfl) (by kernel_rfl) (by kernel_rfl) (len_all (fun _ => rfl)) hI ?_)
  intro b33 w hI
  refine oC (Does.b2sOwn (d := 89) (src := 52) (dst := 9) (xs := ([34] : List Int)) (by kernel_rfl) Go.Proofs.Tryz.underlying52 Go.Proofs.Tryz.underlying5 Go.Proofs.Tryz.underlying9 hI ?_)
  obtain ⟨hg34, h0⟩ := guardS h0
  refine oC (jY (Yl.cat (d := 90) (T := 9) (x := x3) (y := strOfNums ([34] : List Int)) (by kernel_rfl) hg34) hI ?_)
  refine oP (r := []) [4] (S' := [(2, .string (x3 ++ (strOfNums ([34] : List Int))))]) ?_
  refine oD (qT (jE ?_))
  have hI := hI.drop
  have e := someS h0
  subst e
  refine qK [2] (S' := [(2, .string (x3 ++ (strOfNums ([34] : List Int))))]) ?_
  exact post_ret (v := .string (x3 ++ (strOfNums ([34] : List Int)))) (fun a ha => jU (vs := [.string (x3 ++ (strOfNums ([34] : List Int)))]) (.tmp (t := 2) (by kernel_rfl) .nil) ha (by kernel_rfl)) ⟨rfl, hI⟩
/-- cenotaph/cenotaphref02.Text -/
theorem c59 (w0 w : World) (Z : Hp) (A : HP) (hI : Inv w0 Z w A) (hT : Tabs Z) (a0 : (List Int)) (hl_a0 : a0.length = 32) (r : ByteArray) (h0 : ref02_Text a0 = some r) :
  Calls prog 59 #[.agg (q8c a0).toArray] w (fun e w' => e = .returned (.string r) ∧ Inv w0 Z w' A) := by
 have e4 := calls_intro (R := (fun e w' => e = .returned (.string r) ∧ Inv w0 Z w' A)) (w := w) (args := [.agg (q8c a0).toArray]) (fn := Go.Proofs.Tryz.f59) 36 Go.Proofs.Tryz.func59 (by rfl) Go.Proofs.Tryz.ntmps59 (by kernel_rfl)
 refine e4 ?_
 clear e4
 unfold ref02_Text at h0
 refine cQ (cR [0, 1] ?_)
 refine oC (Does.boxL (d := 1) (T := 23) (v := .agg (q8c a0).toArray) (q8c a0) (by kernel_rfl) hI (by kernel_rfl) ?_)
 intro b1 w hI
 refine oP (r := []) [1] (S' := [(1, pb b1)]) ?_
 refine oD (qT (cQ (cR [0] ?_)))
 refine oP (r := []) [0] (S' := [(1, pb b1), (3, .string (⟨#[48, 49, 50, 51, 52, 53, 54, 55, 56, 57, 97, 98, 99, 100, 101, 102]⟩ : ByteArray))]) ?_
 refine oD (qT (cQ (cR [0] ?_)))
 refine oP (r := []) [0] (S' := [(1, pb b1), (3, .string (⟨#[48, 49, 50, 51, 52, 53, 54, 55, 56, 57, 97, 98, 99, 100, 101, 102]⟩ : ByteArray)), (4, .string q8e)]) ?_
 refine oD (qT (cQ (cQ (cR [0] ?_))))
 refine oP (r := []) [0] (S' := [(1, pb b1), (3, .string (⟨#[48, 49, 50, 51, 52, 53, 54, 55, 56, 57, 97, 98, 99, 100, 101, 102]⟩ : ByteArray)), (4, .string q8e), (5, iv 0)]) ?_
 refine oD (qT ?_)
 obtain ⟨r1, h1, h0⟩ := bindS h0
 refine CodT.meet1 (fun a w => ∃ (x2 : ByteArray), x2 = r1 ∧ Fr 36 [(4, .string x2)] a ∧ Inv w0 Z w A) ?_ ?_
 ·
  refine jB ?_
  refine (fun a ha => wp_loopN (fun k a w => ∃ (x3 : ByteArray) (x4 : Int), ref02_Text.l0 a0 k x3 x4 = some r1 ∧ Fr 36 [(1, pb b1), (3, .string (⟨#[48, 49, 50, 51, 52, 53, 54, 55, 56, 57, 97, 98, 99, 100, 101, 102]⟩ : ByteArray)), (4, .string x3), (5, iv x4)] a ∧ Inv w0 Z w (star (pt b1 (.cells (q8c a0).toArray 23 (0, 0))) A)) ?_ FU a w ⟨q8e, 0, h1, ha.keep [1, 3, 4, 5] (by kernel_rfl), hI⟩)
  clear h1 hI
  rintro k a w ⟨x3, x4, h1, ha, hI⟩
  rcases k with _ | k
  ·
   cases h1
  simp only [ref02_Text.l0] at h1
  refine CodT.of ?_ ha
  refine cQ (cQ (cR [0, 1] ?_))
  refine oP (r := []) [0, 1] (S' := [(1, pb b1), (3, .string (⟨#[48, 49, 50, 51, 52, 53, 54, 55, 56, 57, 97, 98, 99, 100, 101, 102]⟩ : ByteArray)), (4, .string x3), (5, iv x4), (9, .bool (decide (x4 < 32)))]) ?_
  refine oD (qT ?_)
  by_cases hb5 : (decide (x4 < 32)) = true
  ·
   rw [if_pos hb5] at h1
   refine cY (b := decide (x4 < 32)) hb5 ?_
   refine jS (qT (cQ (jB (cQ (cR [0, 1, 2, 3, 4, 5] ?_)))))
   refine oP (r := [1, 2, 3, 4, 5]) [0] (S' := [(1, pb b1), (3, .string (⟨#[48, 49, 50, 51, 52, 53, 54, 55, 56, 57, 97, 98, 99, 100, 101, 102]⟩ : ByteArray)), (4, .string x3), (5, iv x4), (12, iv x4)]) ?_
   obtain ⟨hg6, h1⟩ := guardS h1
   refine oC (jY (Yl.indexArr (d := 13) (T := 23) (k := .i64) (j := x4) (g := b1) (o := 0) (by kernel_rfl) Go.Proofs.Tryz.underlying23 ty5 hg6.1 hg6.2) hI ?_)
   refine oC (jY (jL (d := 14) (T := 5) (v := .int .u8 (gt a0 x4)) (by kernel_rfl) (ldB ty5 (l := cA (Value.int .u8) a0) (o := 0 + x4.toNat * 1) (v := .int .u8 (gt a0 x4)) (ent_refl _) (arr_get _ _ hg6.1 (by have := And.intro hl_a0 hg6.2; omega)))) hI ?_)
   refine oP (r := []) [3, 4, 5] (S' := [(1, pb b1), (3, .string (⟨#[48, 49, 50, 51, 52, 53, 54, 55, 56, 57, 97, 98, 99, 100, 101, 102]⟩ : ByteArray)), (4, .string x3), (5, iv x4), (6, iv (wi64 ((wi64 (gt a0 x4)).tdiv 16)))]) ?_
   refine oD (qT (cQ (cR [0, 1, 2, 3, 4, 5] ?_)))
   refine oP (r := [1, 2, 3, 4, 5]) [0] (S' := [(1, pb b1), (3, .string (⟨#[48, 49, 50, 51, 52, 53, 54, 55, 56, 57, 97, 98, 99, 100, 101, 102]⟩ : ByteArray)), (4, .string x3), (5, iv x4), (6, iv (wi64 ((wi64 (gt a0 x4)).tdiv 16))), (17, iv x4)]) ?_
   obtain ⟨hg7, h1⟩ := guardS h1
   refine oC (jY (Yl.indexArr (d := 18) (T := 23) (k := .i64) (j := x4) (g := b1) (o := 0) (by kernel_rfl) Go.Proofs.Tryz.underlying23 ty5 hg7.1 hg7.2) hI ?_)
   refine oC (jY (jL (d := 19) (T := 5) (v := .int .u8 (gt a0 x4)) (by kernel_rfl) (ldB ty5 (l := cA (Value.int .u8) a0) (o := 0 + x4.toNat * 1) (v := .int .u8 (gt a0 x4)) (ent_refl _) (arr_get _ _ hg7.1 (by have := And.intro hl_a0 hg7.2; omega)))) hI ?_)
   refine oP (r := []) [3, 4, 5] (S' := [(1, pb b1), (3, .string (⟨#[48, 49, 50, 51, 52, 53, 54, 55, 56, 57, 97, 98, 99, 100, 101, 102]⟩ : ByteArray)), (4, .string x3), (5, iv x4), (6, iv (wi64 ((wi64 (gt a0 x4)).tdiv 16))), (7, iv ((wi64 (gt a0 x4)).tmod 16))]) ?_
   refine oD (qT ?_)
   refine CodT.drawI (n := 14) [] (by kernel_rfl) (by kernel_rfl) hI ?_
   intro w hI
   refine gP 0 22 (.string x3) ?_
   refine gP 1 23 (.string (⟨#[48, 49, 50, 51, 52, 53, 54, 55, 56, 57, 97, 98, 99, 100, 101, 102]⟩ : ByteArray)) ?_
   refine gP 2 24 (iv (wi64 ((wi64 (gt a0 x4)).tdiv 16))) ?_
   refine gP 3 25 (iv (wi64 ((wi64 (gt a0 x4)).tdiv 16))) ?_
   refine gP 4 26 (iv (wi64 ((wi64 ((wi64 (gt a0 x4)).tdiv 16)) + 1))) ?_
   refine gP 7 29 (.string (⟨#[48, 49, 50, 51, 52, 53, 54, 55, 56, 57, 97, 98, 99, 100, 101, 102]⟩ : ByteArray)) ?_
   refine gP 8 30 (iv ((wi64 (gt a0 x4)).tmod 16)) ?_
   refine gP 9 31 (iv ((wi64 (gt a0 x4)).tmod 16)) ?_
   refine gP 10 32 (iv (wi64 (((wi64 (gt a0 x4)).tmod 16) + 1))) ?_
   obtain ⟨hg8, h1⟩ := guardS h1
   refine gR (i := 5) 2 (Yl.sliceStr11 (d := 27) (T := 9) (s := (⟨#[48, 49, 50, 51, 52, 53, 54, 55, 56, 57, 97, 98, 99, 100, 101, 102]⟩ : ByteArray)) (lo := wi64 ((wi64 (gt a0 x4)).tdiv 16)) (hi := wi64 ((wi64 ((wi64 (gt a0 x4)).tdiv 16)) + 1)) (by kernel_rfl) Go.Proofs.Tryz.underlying9 hg8) hI ?_
   obtain ⟨hg9, h1⟩ := guardS h1
   refine gR (i := 6) 2 (Yl.cat (d := 28) (T := 9) (x := x3) (y := sx (⟨#[48, 49, 50, 51, 52, 53, 54, 55, 56, 57, 97, 98, 99, 100, 101, 102]⟩ : ByteArray) (wi64 ((wi64 (gt a0 x4)).tdiv 16)) (wi64 ((wi64 ((wi64 (gt a0 x4)).tdiv 16)) + 1))) (by kernel_rfl) hg9) hI ?_
   obtain ⟨hg10, h1⟩ := guardS h1
   refine gR (i := 11) 2 (Yl.sliceStr11 (d := 33) (T := 9) (s := (⟨#[48, 49, 50, 51, 52, 53, 54, 55, 56, 57, 97, 98, 99, 100, 101, 102]⟩ : ByteArray)) (lo := (wi64 (gt a0 x4)).tmod 16) (hi := wi64 (((wi64 (gt a0 x4)).tmod 16) + 1)) (by kernel_rfl) Go.Proofs.Tryz.underlying9 hg10) hI ?_
   obtain ⟨hg11, h1⟩ := guardS h1
   refine gR (i := 12) 2 (Yl.cat (d := 34) (T := 9) (x := x3 ++ (sx (⟨#[48, 49, 50, 51, 52, 53, 54, 55, 56, 57, 97, 98, 99, 100, 101, 102]⟩ : ByteArray) (wi64 ((wi64 (gt a0 x4)).tdiv 16)) (wi64 ((wi64 ((wi64 (gt a0 x4)).tdiv 16)) + 1)))) (y := sx (⟨#[48, 49, 50, 51, 52, 53, 54, 55, 56, 57, 97, 98, 99, 100, 101, 102]⟩ : ByteArray) ((wi64 (gt a0 x4)).tmod 16) (wi64 (((wi64 (gt a0 x4)).tmod 16) + 1))) (by kernel_rfl) hg11) hI ?_
   refine gP 13 4 (.string ((x3 ++ (sx (⟨#[48, 49, 50, 51, 52, 53, 54, 55, 56, 57, 97, 98, 99, 100, 101, 102]⟩ : ByteArray) (wi64 ((wi64 (gt a0 x4)).tdiv 16)) (wi64 ((wi64 ((wi64 (gt a0 x4)).tdiv 16)) + 1)))) ++ (sx (⟨#[48, 49, 50, 51, 52, 53, 54, 55, 56, 57, 97, 98, 99, 100, 101, 102]⟩ : ByteArray) ((wi64 (gt a0 x4)).tmod 16) (wi64 (((wi64 (gt a0 x4)).tmod 16) + 1))))) ?_
   refine jD (by kernel_rfl) ?_
   refine jN (qT (cR [0, 1, 2] ?_))
   refine oP (r := []) [0, 1, 2] (S' := [(1, pb b1), (3, .string (⟨#[48, 49, 50, 51, 52, 53, 54, 55, 56, 57, 97, 98, 99, 100, 101, 102]⟩ : ByteArray)), (4, .string ((x3 ++ (sx (⟨#[48, 49, 50, 51, 52, 53, 54, 55, 56, 57, 97, 98, 99, 100, 101, 102]⟩ : ByteArray) (wi64 ((wi64 (gt a0 x4)).tdiv 16)) (wi64 ((wi64 ((wi64 (gt a0 x4)).tdiv 16)) + 1)))) ++ (sx (⟨#[48, 49, 50, 51, 52, 53, 54, 55, 56, 57, 97, 98, 99, 100, 101, 102]⟩ : ByteArray) ((wi64 (gt a0 x4)).tmod 16) (wi64 (((wi64 (gt a0 x4)).tmod 16) + 1))))), (5, iv (wi64 (x4 + 1)))]) ?_
   refine oD ?_
   exact jT fun a ha => ⟨k, Nat.lt_succ_self k, (x3 ++ (sx (⟨#[48, 49, 50, 51, 52, 53, 54, 55, 56, 57, 97, 98, 99, 100, 101, 102]⟩ : ByteArray) (wi64 ((wi64 (gt a0 x4)).tdiv 16)) (wi64 ((wi64 ((wi64 (gt a0 x4)).tdiv 16)) + 1)))) ++ (sx (⟨#[48, 49, 50, 51, 52, 53, 54, 55, 56, 57, 97, 98, 99, 100, 101, 102]⟩ : ByteArray) ((wi64 (gt a0 x4)).tmod 16) (wi64 (((wi64 (gt a0 x4)).tmod 16) + 1))), wi64 (x4 + 1), h1, ha.keep [1, 3, 4, 5] (by kernel_rfl), hI⟩
  ·
   rw [if_neg hb5] at h1
   refine cN (b := decide (x4 < 32)) (by simpa using hb5) ?_
   refine jZ ?_
   refine jX (jX ?_)
   refine Qn.block ?_
   have hI := hI.drop
   have e := someS h1
   subst e
   exact jT fun a ha => ⟨x3, rfl, ha.keep [4] (by kernel_rfl), hI⟩
 ·
  rintro a w ⟨x2, rfl, ha, hI⟩
  try dsimp only at h0
  refine Qn.of ?_ ha
  refine qT (cQ (cR [0, 1] ?_))
  refine oP (r := []) [0, 1] (S' := [(2, .string x2)]) ?_
  refine oD (qT (jE ?_))
  have e := someS h0
  subst e
  refine qK [2] (S' := [(2, .string x2)]) ?_
  exact post_ret (v := .string x2) (fun a ha => jU (vs := [.string x2]) (.tmp (t := 2) (by kernel_rfl) .nil) ha (by kernel_rfl)) ⟨rfl, hI⟩
/-- cenotaph/cenotaphref05.Show -/
theorem c35 (w0 w : World) (Z : Hp) (A : HP) (hI : Inv w0 Z w A) (hT : Tabs Z) (a0 : ApiEvent) (hl1 : a0.Sum.length = 32) (r : ByteArray) (h0 : ref05_Show a0 = some r) :
  Calls prog 35 #[.agg (c_ApiEvent a0).toArray] w (fun e w' => e = .returned (.string r) ∧ Inv w0 Z w' A) := by
 have e4 := calls_intro (R := (fun e w' => e = .returned (.string r) ∧ Inv w0 Z w' A)) (w := w) (args := [.agg (c_ApiEvent a0).toArray]) (fn := Go.Proofs.Tryz.f35) 60 Go.Proofs.Tryz.func35 (by rfl) Go.Proofs.Tryz.ntmps35 (by kernel_rfl)
 refine e4 ?_
 clear e4
 unfold ref05_Show at h0
 refine cQ (cR [0, 1] ?_)
 refine oC (Does.boxL (d := 1) (T := 50) (v := .agg (c_ApiEvent a0).toArray) (c_ApiEvent a0) (by kernel_rfl) hI (by kernel_rfl) ?_)
 intro b2 w hI
 refine oP (r := []) [1] (S' := [(1, pb b2)]) ?_
 refine oD (qT (cQ (cR [0, 1, 2] ?_)))
 refine oC (jY (jL (d := 6) (T := 50) (v := .agg (c_ApiEvent a0).toArray) (by kernel_rfl) (ldBN ty50 (l := c_ApiEvent a0) (o := 0) (cs := c_ApiEvent a0) (ent_refl _) (len_ApiEvent _ hl1) (whole _ _ (len_ApiEvent _ hl1)))) hI ?_)
 obtain ⟨y4, hc3, h0⟩ := bindS h0
 try dsimp only at h0
 refine oC (jC (d := some 7) (n := 54) (vs := [.agg (c_ApiEvent a0).toArray]) (by kernel_rfl) en54 (c54 w0 w _ _ hI hT a0 hl1 _ hc3) ?_)
 rintro e w ⟨rfl, hI⟩
 refine ⟨_, rfl, ?_⟩
 refine oP (r := []) [2] (S' := [(1, pb b2), (3, .bool y4)]) ?_
 refine oD (qT (cQ (cQ (cR [0, 1] ?_))))
 refine oP (r := []) [0, 1] (S' := [(1, pb b2), (9, .bool (!y4))]) ?_
 refine oD (qT ?_)
 by_cases hb5 : (!y4) = true
 ·
  rw [if_pos hb5] at h0
  refine cY (b := !y4) hb5 ?_
  refine cQ (cR [0] ?_)
  refine oP (r := []) [0] (S' := [(2, .string (⟨#[63]⟩ : ByteArray))]) ?_
  refine oD (qT (jE (jR ?_)))
  have hI := hI.drop
  have e := someS h0
  subst e
  refine qK [2] (S' := [(2, .string (⟨#[63]⟩ : ByteArray))]) ?_
  exact post_ret (v := .string (⟨#[63]⟩ : ByteArray)) (fun a ha => jU (vs := [.string (⟨#[63]⟩ : ByteArray)]) (.tmp (t := 2) (by kernel_rfl) .nil) ha (by kernel_rfl)) ⟨rfl, hI⟩
 ·
  rw [if_neg hb5] at h0
  refine cN (b := !y4) (by simpa using hb5) ?_
  refine jS (qT (cQ (cR [0, 1, 2, 3, 4] ?_)))
  refine oP (r := [1, 2, 3, 4]) [0] (S' := [(1, pb b2), (10, pb b2)]) ?_
  refine oC (jY (jL (d := 11) (T := 48) (v := iv a0.Kind) (by kernel_rfl) (ldB ty48 (l := c_ApiEvent a0) (o := 0) (v := iv a0.Kind) (ent_refl _) (by kernel_rfl))) hI ?_)
  obtain ⟨y7, hc6, h0⟩ := bindS h0
  try dsimp only at h0
  refine oC (jC (d := some 12) (n := 55) (vs := [iv a0.Kind]) (by kernel_rfl) en55 (c55 w0 w _ _ hI hT a0.Kind _ hc6) ?_)
  rintro e w ⟨rfl, hl8, hI⟩
  refine ⟨_, rfl, ?_⟩
  refine oC (jA (d := 4) (T := 90) (cA Value.bool (List.replicate 5 (false : Bool))) (by kernel_rfl) ty90 hI (by kernel_rfl) ?_)
  intro b9 w hI
  refine oC (jV (T := 90) (b := b9) (n := 5) (xs := (List.replicate 5 (false : Bool))) (ys := y7) (by kernel_rfl) ty90 hI (fun _ => rfl) (by kernel_rfl) hl8 ?_)
  intro w hI
  refine oD (qT (cQ (cR [0, 1, 2, 3, 4, 5] ?_)))
  refine oC (Does.buildSlice (en := cS) (d := 13) (n := 8) (T := 36) (ps := [(0, .string (⟨#[99, 114, 101, 97, 116, 101]⟩ : ByteArray)), (1, .string (⟨#[97, 112, 112, 101, 110, 100]⟩ : ByteArray)), (2, .string (⟨#[115, 101, 97, 108]⟩ : ByteArray)), (3, .string (⟨#[101, 120, 116, 101, 110, 100]⟩ : ByteArray)), (4, .string (⟨#[104, 111, 108, 100]⟩ : ByteArray)), (5, .string (⟨#[114, 101, 108, 101, 97, 115, 101]⟩ : ByteArray)), (6, .string (⟨#[100, 101, 108, 101, 116, 101]⟩ : ByteArray)), (7, .string (⟨#[116, 105, 99, 107]⟩ : ByteArray))]) ([(⟨#[99, 114, 101, 97, 116, 101]⟩ : ByteArray), (⟨#[97, 112, 112, 101, 110, 100]⟩ : ByteArray), (⟨#[115, 101, 97, 108]⟩ : ByteArray), (⟨#[101, 120, 116, 101, 110, 100]⟩ : ByteArray), (⟨#[104, 111, 108, 100]⟩ : ByteArray), (⟨#[114, 101, 108, 101, 97, 115, 101]⟩ : ByteArray), (⟨#[100, 101, 108, 101, 116, 101]⟩ : ByteArray), (⟨#[116, 105, 99, 107]⟩ : ByteArray)] : List ByteArray) (by kernel_rfl) Go.Proofs.Tryz.underlying36 ty9 (by kernel_rfl) (by kernel_rfl) (by kernel_rfl) (by kernel_rfl) (len_all (fun _ => rfl)) hI ?_)
  intro b10 w hI
  refine oP (r := [2, 3, 4, 5]) [1] (S' := [(1, pb b2), (4, pb b9), (13, .slice (some ⟨b10, 0, none⟩) (([(⟨#[99, 114, 101, 97, 116, 101]⟩ : ByteArray), (⟨#[97, 112, 112, 101, 110, 100]⟩ : ByteArray), (⟨#[115, 101, 97, 108]⟩ : ByteArray), (⟨#[101, 120, 116, 101, 110, 100]⟩ : ByteArray), (⟨#[104, 111, 108, 100]⟩ : ByteArray), (⟨#[114, 101, 108, 101, 97, 115, 101]⟩ : ByteArray), (⟨#[100, 101, 108, 101, 116, 101]⟩ : ByteArray), (⟨#[116, 105, 99, 107]⟩ : ByteArray)] : List ByteArray).length) 8), (14, pb b2)]) ?_
  refine oC (jY (jL (d := 15) (T := 48) (v := iv a0.Kind) (by kernel_rfl) (ldB ty48 (l := c_ApiEvent a0) (o := 0) (v := iv a0.Kind) (pick3 _ _ _ _) (by kernel_rfl))) hI ?_)
  obtain ⟨hg11, h0⟩ := guardS h0
  obtain ⟨g12, hA13, hr14, hl15⟩ := ownS_get hI hg11.1 hg11.2
  refine oC (jY (Yl.indexSlice (d := 16) (T := 36) (cc := 8) (k := .i64) (j := a0.Kind) (g := g12) (o := 0) (by kernel_rfl) Go.Proofs.Tryz.underlying36 ty9 hA13 hg11.1 hg11.2) hI ?_)
  refine oC (jY (jL (d := 17) (T := 9) (v := .string (gt ([(⟨#[99, 114, 101, 97, 116, 101]⟩ : ByteArray), (⟨#[97, 112, 112, 101, 110, 100]⟩ : ByteArray), (⟨#[115, 101, 97, 108]⟩ : ByteArray), (⟨#[101, 120, 116, 101, 110, 100]⟩ : ByteArray), (⟨#[104, 111, 108, 100]⟩ : ByteArray), (⟨#[114, 101, 108, 101, 97, 115, 101]⟩ : ByteArray), (⟨#[100, 101, 108, 101, 116, 101]⟩ : ByteArray), (⟨#[116, 105, 99, 107]⟩ : ByteArray)] : List ByteArray) a0.Kind)) (by kernel_rfl) (ldR ty9 (v := .string (gt ([(⟨#[99, 114, 101, 97, 116, 101]⟩ : ByteArray), (⟨#[97, 112, 112, 101, 110, 100]⟩ : ByteArray), (⟨#[115, 101, 97, 108]⟩ : ByteArray), (⟨#[101, 120, 116, 101, 110, 100]⟩ : ByteArray), (⟨#[104, 111, 108, 100]⟩ : ByteArray), (⟨#[114, 101, 108, 101, 97, 115, 101]⟩ : ByteArray), (⟨#[100, 101, 108, 101, 116, 101]⟩ : ByteArray), (⟨#[116, 105, 99, 107]⟩ : ByteArray)] : List ByteArray) a0.Kind)) 0 (fun w hC => hr14 w0 w _ hC) (by kernel_rfl))) hI ?_)
  refine oP (r := []) [5] (S' := [(1, pb b2), (4, pb b9), (5, .string (gt ([(⟨#[99, 114, 101, 97, 116, 101]⟩ : ByteArray), (⟨#[97, 112, 112, 101, 110, 100]⟩ : ByteArray), (⟨#[115, 101, 97, 108]⟩ : ByteArray), (⟨#[101, 120, 116, 101, 110, 100]⟩ : ByteArray), (⟨#[104, 111, 108, 100]⟩ : ByteArray), (⟨#[114, 101, 108, 101, 97, 115, 101]⟩ : ByteArray), (⟨#[100, 101, 108, 101, 116, 101]⟩ : ByteArray), (⟨#[116, 105, 99, 107]⟩ : ByteArray)] : List ByteArray) a0.Kind))]) ?_
  refine oD (qT ?_)
  obtain ⟨r1, h1, h0⟩ := bindS h0
  refine jM (fun a w => ∃ (x16 : ByteArray), x16 = r1 ∧ Fr 60 [(1, pb b2), (4, pb b9), (5, .string x16)] a ∧ Inv w0 Z w (star (pt b9 (.cells (cA Value.bool y7).toArray 90 (0, 0))) (star (pt b2 (.cells (c_ApiEvent a0).toArray 50 (0, 0))) A))) ?_ ?_
  ·
   refine cQ (cR [0, 1] ?_)
   refine oP (r := [1]) [0] (S' := [(1, pb b2), (4, pb b9), (5, .string (gt ([(⟨#[99, 114, 101, 97, 116, 101]⟩ : ByteArray), (⟨#[97, 112, 112, 101, 110, 100]⟩ : ByteArray), (⟨#[115, 101, 97, 108]⟩ : ByteArray), (⟨#[101, 120, 116, 101, 110, 100]⟩ : ByteArray), (⟨#[104, 111, 108, 100]⟩ : ByteArray), (⟨#[114, 101, 108, 101, 97, 115, 101]⟩ : ByteArray), (⟨#[100, 101, 108, 101, 116, 101]⟩ : ByteArray), (⟨#[116, 105, 99, 107]⟩ : ByteArray)] : List ByteArray) a0.Kind)), (18, pb b9)]) ?_
   refine oC (jY (jL (d := 19) (T := 4) (v := .bool (gt y7 0)) (by kernel_rfl) (ldB ty4 (l := cA Value.bool y7) (o := 0) (v := .bool (gt y7 0)) (pick2 _ _ _) (arr_getC _ _ 0 hl8 (by kernel_rfl)))) hI ?_)
   refine oD (qT ?_)
   by_cases hb17 : (gt y7 0) = true
   ·
    rw [if_pos hb17] at h1
    refine cY (b := gt y7 0) hb17 ?_
    refine cR [0, 1, 2, 3, 4, 5, 6] ?_
    refine oP (r := [1, 2, 3, 4, 5, 6]) [0] (S' := [(1, pb b2), (4, pb b9), (20, .string (gt ([(⟨#[99, 114, 101, 97, 116, 101]⟩ : ByteArray), (⟨#[97, 112, 112, 101, 110, 100]⟩ : ByteArray), (⟨#[115, 101, 97, 108]⟩ : ByteArray), (⟨#[101, 120, 116, 101, 110, 100]⟩ : ByteArray), (⟨#[104, 111, 108, 100]⟩ : ByteArray), (⟨#[114, 101, 108, 101, 97, 115, 101]⟩ : ByteArray), (⟨#[100, 101, 108, 101, 116, 101]⟩ : ByteArray), (⟨#[116, 105, 99, 107]⟩ : ByteArray)] : List ByteArray) a0.Kind))]) ?_
    obtain ⟨hg18, h1⟩ := guardS h1
    refine oC (jY (Yl.cat (d := 21) (T := 9) (x := gt ([(⟨#[99, 114, 101, 97, 116, 101]⟩ : ByteArray), (⟨#[97, 112, 112, 101, 110, 100]⟩ : ByteArray), (⟨#[115, 101, 97, 108]⟩ : ByteArray), (⟨#[101, 120, 116, 101, 110, 100]⟩ : ByteArray), (⟨#[104, 111, 108, 100]⟩ : ByteArray), (⟨#[114, 101, 108, 101, 97, 115, 101]⟩ : ByteArray), (⟨#[100, 101, 108, 101, 116, 101]⟩ : ByteArray), (⟨#[116, 105, 99, 107]⟩ : ByteArray)] : List ByteArray) a0.Kind) (y := (⟨#[32]⟩ : ByteArray)) (by kernel_rfl) hg18) hI ?_)
    refine oP (r := [3, 4, 5, 6]) [2] (S' := [(1, pb b2), (4, pb b9), (21, .string ((gt ([(⟨#[99, 114, 101, 97, 116, 101]⟩ : ByteArray), (⟨#[97, 112, 112, 101, 110, 100]⟩ : ByteArray), (⟨#[115, 101, 97, 108]⟩ : ByteArray), (⟨#[101, 120, 116, 101, 110, 100]⟩ : ByteArray), (⟨#[104, 111, 108, 100]⟩ : ByteArray), (⟨#[114, 101, 108, 101, 97, 115, 101]⟩ : ByteArray), (⟨#[100, 101, 108, 101, 116, 101]⟩ : ByteArray), (⟨#[116, 105, 99, 107]⟩ : ByteArray)] : List ByteArray) a0.Kind) ++ (⟨#[32]⟩ : ByteArray))), (22, .pointer (some ⟨b2, 1, none⟩))]) ?_
    refine oC (jY (jL (d := 23) (T := 3) (v := iv a0.ID) (by kernel_rfl) (ldB ty3 (l := c_ApiEvent a0) (o := 1) (v := iv a0.ID) (pick3 _ _ _ _) (by kernel_rfl))) hI ?_)
    obtain ⟨y20, hc19, h1⟩ := bindS h1
    try dsimp only at h1
    refine oC (jC (d := some 24) (n := 34) (vs := [iv a0.ID]) (by kernel_rfl) en34 (c34 FU w0 w _ _ hI hT a0.ID _ hc19) ?_)
    rintro e w ⟨rfl, hI⟩
    refine ⟨_, rfl, ?_⟩
    obtain ⟨hg21, h1⟩ := guardS h1
    refine oC (jY (Yl.cat (d := 25) (T := 9) (x := (gt ([(⟨#[99, 114, 101, 97, 116, 101]⟩ : ByteArray), (⟨#[97, 112, 112, 101, 110, 100]⟩ : ByteArray), (⟨#[115, 101, 97, 108]⟩ : ByteArray), (⟨#[101, 120, 116, 101, 110, 100]⟩ : ByteArray), (⟨#[104, 111, 108, 100]⟩ : ByteArray), (⟨#[114, 101, 108, 101, 97, 115, 101]⟩ : ByteArray), (⟨#[100, 101, 108, 101, 116, 101]⟩ : ByteArray), (⟨#[116, 105, 99, 107]⟩ : ByteArray)] : List ByteArray) a0.Kind) ++ (⟨#[32]⟩ : ByteArray)) (y := y20) (by kernel_rfl) hg21) hI ?_)
    refine oP (r := []) [6] (S' := [(1, pb b2), (4, pb b9), (5, .string (((gt ([(⟨#[99, 114, 101, 97, 116, 101]⟩ : ByteArray), (⟨#[97, 112, 112, 101, 110, 100]⟩ : ByteArray), (⟨#[115, 101, 97, 108]⟩ : ByteArray), (⟨#[101, 120, 116, 101, 110, 100]⟩ : ByteArray), (⟨#[104, 111, 108, 100]⟩ : ByteArray), (⟨#[114, 101, 108, 101, 97, 115, 101]⟩ : ByteArray), (⟨#[100, 101, 108, 101, 116, 101]⟩ : ByteArray), (⟨#[116, 105, 99, 107]⟩ : ByteArray)] : List ByteArray) a0.Kind) ++ (⟨#[32]⟩ : ByteArray)) ++ y20))]) ?_
    refine oD ?_
    have hI := hI.drop
    have e := someS h1
    subst e
    exact jT fun a ha => ⟨((gt ([(⟨#[99, 114, 101, 97, 116, 101]⟩ : ByteArray), (⟨#[97, 112, 112, 101, 110, 100]⟩ : ByteArray), (⟨#[115, 101, 97, 108]⟩ : ByteArray), (⟨#[101, 120, 116, 101, 110, 100]⟩ : ByteArray), (⟨#[104, 111, 108, 100]⟩ : ByteArray), (⟨#[114, 101, 108, 101, 97, 115, 101]⟩ : ByteArray), (⟨#[100, 101, 108, 101, 116, 101]⟩ : ByteArray), (⟨#[116, 105, 99, 107]⟩ : ByteArray)] : List ByteArray) a0.Kind) ++ (⟨#[32]⟩ : ByteArray)) ++ y20, rfl, ha.keep [1, 4, 5] (by kernel_rfl), hI⟩
   ·
    rw [if_neg hb17] at h1
    refine cN (b := gt y7 0) (by simpa using hb17) ?_
    refine jS ?_
    have hI := hI.drop
    have e := someS h1
    subst e
    exact jT fun a ha => ⟨gt ([(⟨#[99, 114, 101, 97, 116, 101]⟩ : ByteArray), (⟨#[97, 112, 112, 101, 110, 100]⟩ : ByteArray), (⟨#[115, 101, 97, 108]⟩ : ByteArray), (⟨#[101, 120, 116, 101, 110, 100]⟩ : ByteArray), (⟨#[104, 111, 108, 100]⟩ : ByteArray), (⟨#[114, 101, 108, 101, 97, 115, 101]⟩ : ByteArray), (⟨#[100, 101, 108, 101, 116, 101]⟩ : ByteArray), (⟨#[116, 105, 99, 107]⟩ : ByteArray)] : List ByteArray) a0.Kind, rfl, ha.keep [1, 4, 5] (by kernel_rfl), hI⟩
  ·
   rintro a w ⟨x16, rfl, ha, hI⟩
   try dsimp only at h0
   refine CodT.of ?_ ha
   obtain ⟨r1, h1, h0⟩ := bindS h0
   refine jM (fun a w => ∃ (x22 : ByteArray), x22 = r1 ∧ Fr 60 [(1, pb b2), (4, pb b9), (5, .string x22)] a ∧ Inv w0 Z w (star (pt b9 (.cells (cA Value.bool y7).toArray 90 (0, 0))) (star (pt b2 (.cells (c_ApiEvent a0).toArray 50 (0, 0))) A))) ?_ ?_
   ·
    refine cQ (cR [0, 1] ?_)
    refine oP (r := [1]) [0] (S' := [(1, pb b2), (4, pb b9), (5, .string x16), (26, .pointer (some ⟨b9, 1, none⟩))]) ?_
    refine oC (jY (jL (d := 27) (T := 4) (v := .bool (gt y7 1)) (by kernel_rfl) (ldB ty4 (l := cA Value.bool y7) (o := 1) (v := .bool (gt y7 1)) (ent_refl _) (arr_getC _ _ 1 hl8 (by kernel_rfl)))) hI ?_)
    refine oD (qT ?_)
    by_cases hb23 : (gt y7 1) = true
    ·
     rw [if_pos hb23] at h1
     refine cY (b := gt y7 1) hb23 ?_
     refine cR [0, 1, 2, 3, 4, 5, 6] ?_
     refine oP (r := [1, 2, 3, 4, 5, 6]) [0] (S' := [(1, pb b2), (4, pb b9), (28, .string x16)]) ?_
     obtain ⟨hg24, h1⟩ := guardS h1
     refine oC (jY (Yl.cat (d := 29) (T := 9) (x := x16) (y := (⟨#[32]⟩ : ByteArray)) (by kernel_rfl) hg24) hI ?_)
     refine oP (r := [3, 4, 5, 6]) [2] (S' := [(1, pb b2), (4, pb b9), (29, .string (x16 ++ (⟨#[32]⟩ : ByteArray))), (30, .pointer (some ⟨b2, 2, none⟩))]) ?_
     refine oC (jY (jL (d := 31) (T := 9) (v := .string a0.Name) (by kernel_rfl) (ldB ty9 (l := c_ApiEvent a0) (o := 2) (v := .string a0.Name) (pick2 _ _ _) (by kernel_rfl))) hI ?_)
     obtain ⟨y26, hc25, h1⟩ := bindS h1
     try dsimp only at h1
     refine oC (jC (d := some 32) (n := 58) (vs := [.string a0.Name]) (by kernel_rfl) en58 (c58 w0 w _ _ hI hT a0.Name _ hc25) ?_)
     rintro e w ⟨rfl, hI⟩
     refine ⟨_, rfl, ?_⟩
     obtain ⟨hg27, h1⟩ := guardS h1
     refine oC (jY (Yl.cat (d := 33) (T := 9) (x := x16 ++ (⟨#[32]⟩ : ByteArray)) (y := y26) (by kernel_rfl) hg27) hI ?_)
     refine oP (r := []) [6] (S' := [(1, pb b2), (4, pb b9), (5, .string ((x16 ++ (⟨#[32]⟩ : ByteArray)) ++ y26))]) ?_
     refine oD ?_
     have e := someS h1
     subst e
     exact jT fun a ha => ⟨(x16 ++ (⟨#[32]⟩ : ByteArray)) ++ y26, rfl, ha.keep [1, 4, 5] (by kernel_rfl), hI⟩
    ·
     rw [if_neg hb23] at h1
     refine cN (b := gt y7 1) (by simpa using hb23) ?_
     refine jS ?_
     have e := someS h1
     subst e
     exact jT fun a ha => ⟨x16, rfl, ha.keep [1, 4, 5] (by kernel_rfl), hI⟩
   ·
    rintro a w ⟨x22, rfl, ha, hI⟩
    try dsimp only at h0
    refine CodT.of ?_ ha
    obtain ⟨r1, h1, h0⟩ := bindS h0
    refine jM (fun a w => ∃ (x28 : ByteArray), x28 = r1 ∧ Fr 60 [(1, pb b2), (4, pb b9), (5, .string x28)] a ∧ Inv w0 Z w (star (pt b9 (.cells (cA Value.bool y7).toArray 90 (0, 0))) (star (pt b2 (.cells (c_ApiEvent a0).toArray 50 (0, 0))) A))) ?_ ?_
    ·
     refine cQ (cR [0, 1] ?_)
     refine oP (r := [1]) [0] (S' := [(1, pb b2), (4, pb b9), (5, .string x22), (34, .pointer (some ⟨b9, 2, none⟩))]) ?_
     refine oC (jY (jL (d := 35) (T := 4) (v := .bool (gt y7 2)) (by kernel_rfl) (ldB ty4 (l := cA Value.bool y7) (o := 2) (v := .bool (gt y7 2)) (ent_refl _) (arr_getC _ _ 2 hl8 (by kernel_rfl)))) hI ?_)
     refine oD (qT ?_)
     by_cases hb29 : (gt y7 2) = true
     ·
      rw [if_pos hb29] at h1
      refine cY (b := gt y7 2) hb29 ?_
      refine cR [0, 1, 2, 3, 4, 5, 6] ?_
      refine oP (r := [1, 2, 3, 4, 5, 6]) [0] (S' := [(1, pb b2), (4, pb b9), (36, .string x22)]) ?_
      obtain ⟨hg30, h1⟩ := guardS h1
      refine oC (jY (Yl.cat (d := 37) (T := 9) (x := x22) (y := (⟨#[32]⟩ : ByteArray)) (by kernel_rfl) hg30) hI ?_)
      refine oP (r := [3, 4, 5, 6]) [2] (S' := [(1, pb b2), (4, pb b9), (37, .string (x22 ++ (⟨#[32]⟩ : ByteArray))), (38, .pointer (some ⟨b2, 3, none⟩))]) ?_
      refine oC (jY (jL (d := 39) (T := 3) (v := iv a0.Time) (by kernel_rfl) (ldB ty3 (l := c_ApiEvent a0) (o := 3) (v := iv a0.Time) (pick2 _ _ _) (by kernel_rfl))) hI ?_)
      obtain ⟨y32, hc31, h1⟩ := bindS h1
      try dsimp only at h1
      refine oC (jC (d := some 40) (n := 34) (vs := [iv a0.Time]) (by kernel_rfl) en34 (c34 FU w0 w _ _ hI hT a0.Time _ hc31) ?_)
      rintro e w ⟨rfl, hI⟩
      refine ⟨_, rfl, ?_⟩
      obtain ⟨hg33, h1⟩ := guardS h1
      refine oC (jY (Yl.cat (d := 41) (T := 9) (x := x22 ++ (⟨#[32]⟩ : ByteArray)) (y := y32) (by kernel_rfl) hg33) hI ?_)
      refine oP (r := []) [6] (S' := [(1, pb b2), (4, pb b9), (5, .string ((x22 ++ (⟨#[32]⟩ : ByteArray)) ++ y32))]) ?_
      refine oD ?_
      have e := someS h1
      subst e
      exact jT fun a ha => ⟨(x22 ++ (⟨#[32]⟩ : ByteArray)) ++ y32, rfl, ha.keep [1, 4, 5] (by kernel_rfl), hI⟩
     ·
      rw [if_neg hb29] at h1
      refine cN (b := gt y7 2) (by simpa using hb29) ?_
      refine jS ?_
      have e := someS h1
      subst e
      exact jT fun a ha => ⟨x22, rfl, ha.keep [1, 4, 5] (by kernel_rfl), hI⟩
    ·
     rintro a w ⟨x28, rfl, ha, hI⟩
     try dsimp only at h0
     refine CodT.of ?_ ha
     obtain ⟨r1, h1, h0⟩ := bindS h0
     refine jM (fun a w => ∃ (x34 : ByteArray), x34 = r1 ∧ Fr 60 [(1, pb b2), (4, pb b9), (5, .string x34)] a ∧ Inv w0 Z w (star (pt b9 (.cells (cA Value.bool y7).toArray 90 (0, 0))) (star (pt b2 (.cells (c_ApiEvent a0).toArray 50 (0, 0))) A))) ?_ ?_
     ·
      refine cQ (cR [0, 1] ?_)
      refine oP (r := [1]) [0] (S' := [(1, pb b2), (4, pb b9), (5, .string x28), (42, .pointer (some ⟨b9, 3, none⟩))]) ?_
      refine oC (jY (jL (d := 43) (T := 4) (v := .bool (gt y7 3)) (by kernel_rfl) (ldB ty4 (l := cA Value.bool y7) (o := 3) (v := .bool (gt y7 3)) (ent_refl _) (arr_getC _ _ 3 hl8 (by kernel_rfl)))) hI ?_)
      refine oD (qT ?_)
      by_cases hb35 : (gt y7 3) = true
      ·
       rw [if_pos hb35] at h1
       refine cY (b := gt y7 3) hb35 ?_
       refine cR [0, 1, 2, 3, 4, 5, 6] ?_
       refine oP (r := [1, 2, 3, 4, 5, 6]) [0] (S' := [(1, pb b2), (4, pb b9), (44, .string x28)]) ?_
       obtain ⟨hg36, h1⟩ := guardS h1
       refine oC (jY (Yl.cat (d := 45) (T := 9) (x := x28) (y := (⟨#[32]⟩ : ByteArray)) (by kernel_rfl) hg36) hI ?_)
       refine oP (r := [3, 4, 5, 6]) [2] (S' := [(1, pb b2), (4, pb b9), (45, .string (x28 ++ (⟨#[32]⟩ : ByteArray))), (46, .pointer (some ⟨b2, 4, none⟩))]) ?_
       refine oC (jY (jL (d := 47) (T := 3) (v := iv a0.Len) (by kernel_rfl) (ldB ty3 (l := c_ApiEvent a0) (o := 4) (v := iv a0.Len) (pick2 _ _ _) (by kernel_rfl))) hI ?_)
       obtain ⟨y38, hc37, h1⟩ := bindS h1
       try dsimp only at h1
       refine oC (jC (d := some 48) (n := 34) (vs := [iv a0.Len]) (by kernel_rfl) en34 (c34 FU w0 w _ _ hI hT a0.Len _ hc37) ?_)
       rintro e w ⟨rfl, hI⟩
       refine ⟨_, rfl, ?_⟩
       obtain ⟨hg39, h1⟩ := guardS h1
       refine oC (jY (Yl.cat (d := 49) (T := 9) (x := x28 ++ (⟨#[32]⟩ : ByteArray)) (y := y38) (by kernel_rfl) hg39) hI ?_)
       refine oP (r := []) [6] (S' := [(1, pb b2), (4, pb b9), (5, .string ((x28 ++ (⟨#[32]⟩ : ByteArray)) ++ y38))]) ?_
       refine oD ?_
       have e := someS h1
       subst e
       exact jT fun a ha => ⟨(x28 ++ (⟨#[32]⟩ : ByteArray)) ++ y38, rfl, ha.keep [1, 4, 5] (by kernel_rfl), hI⟩
      ·
       rw [if_neg hb35] at h1
       refine cN (b := gt y7 3) (by simpa using hb35) ?_
       refine jS ?_
       have e := someS h1
       subst e
       exact jT fun a ha => ⟨x28, rfl, ha.keep [1, 4, 5] (by kernel_rfl), hI⟩
     ·
      rintro a w ⟨x34, rfl, ha, hI⟩
      try dsimp only at h0
      refine CodT.of ?_ ha
      obtain ⟨r1, h1, h0⟩ := bindS h0
      refine jM (fun a w => ∃ (x40 : ByteArray), x40 = r1 ∧ Fr 60 [(5, .string x40)] a ∧ Inv w0 Z w A) ?_ ?_
      ·
       refine cQ (cR [0, 1] ?_)
       refine oP (r := [1]) [0] (S' := [(1, pb b2), (5, .string x34), (50, .pointer (some ⟨b9, 4, none⟩))]) ?_
       refine oC (jY (jL (d := 51) (T := 4) (v := .bool (gt y7 4)) (by kernel_rfl) (ldB ty4 (l := cA Value.bool y7) (o := 4) (v := .bool (gt y7 4)) (ent_refl _) (arr_getC _ _ 4 hl8 (by kernel_rfl)))) hI ?_)
       refine oD (qT ?_)
       by_cases hb41 : (gt y7 4) = true
       ·
        rw [if_pos hb41] at h1
        refine cY (b := gt y7 4) hb41 ?_
        refine cR [0, 1, 2, 3, 4, 5, 6, 7] ?_
        refine oP (r := [1, 2, 3, 4, 5, 6, 7]) [0] (S' := [(1, pb b2), (52, .string x34)]) ?_
        obtain ⟨hg42, h1⟩ := guardS h1
        refine oC (jY (Yl.cat (d := 53) (T := 9) (x := x34) (y := (⟨#[32]⟩ : ByteArray)) (by kernel_rfl) hg42) hI ?_)
        refine oP (r := [3, 4, 5, 6, 7]) [2] (S' := [(53, .string (x34 ++ (⟨#[32]⟩ : ByteArray))), (54, .pointer (some ⟨b2, 5, none⟩))]) ?_
        refine oC (jY (jL (d := 55) (T := 23) (v := .agg (q8c a0.Sum).toArray) (by kernel_rfl) (ldBN ty23 (l := c_ApiEvent a0) (o := 5) (cs := cA (Value.int .u8) a0.Sum) (pick2 _ _ _) ((cA_length _ _).trans hl1) (tail_take _ _ _ _ _ (by kernel_rfl) hl1))) hI ?_)
        obtain ⟨y44, hc43, h1⟩ := bindS h1
        try dsimp only at h1
        refine oC (jC (d := some 56) (n := 59) (vs := [.agg (q8c a0.Sum).toArray]) (by kernel_rfl) en59 (c59 w0 w _ _ hI hT a0.Sum hl1 _ hc43) ?_)
        rintro e w ⟨rfl, hI⟩
        refine ⟨_, rfl, ?_⟩
        obtain ⟨hg45, h1⟩ := guardS h1
        refine oC (jY (Yl.sliceStr01 (d := 57) (T := 9) (s := y44) (hi := 8) (by kernel_rfl) Go.Proofs.Tryz.underlying9 hg45) hI ?_)
        obtain ⟨hg46, h1⟩ := guardS h1
        refine oC (jY (Yl.cat (d := 58) (T := 9) (x := x34 ++ (⟨#[32]⟩ : ByteArray)) (y := sx y44 0 8) (by kernel_rfl) hg46) hI ?_)
        refine oP (r := []) [7] (S' := [(5, .string ((x34 ++ (⟨#[32]⟩ : ByteArray)) ++ (sx y44 0 8)))]) ?_
        refine oD ?_
        have hI := hI.drop
        have hI := hI.drop
        have e := someS h1
        subst e
        exact jT fun a ha => ⟨(x34 ++ (⟨#[32]⟩ : ByteArray)) ++ (sx y44 0 8), rfl, ha.keep [5] (by kernel_rfl), hI⟩
       ·
        rw [if_neg hb41] at h1
        refine cN (b := gt y7 4) (by simpa using hb41) ?_
        refine jS ?_
        have hI := hI.drop
        have hI := hI.drop
        have e := someS h1
        subst e
        exact jT fun a ha => ⟨x34, rfl, ha.keep [5] (by kernel_rfl), hI⟩
      ·
       rintro a w ⟨x40, rfl, ha, hI⟩
       try dsimp only at h0
       refine CodT.of ?_ ha
       refine cQ (cR [0, 1] ?_)
       refine oP (r := []) [0, 1] (S' := [(2, .string x40)]) ?_
       refine oD (qT (jE ?_))
       have e := someS h0
       subst e
       refine qK [2] (S' := [(2, .string x40)]) ?_
       exact post_ret (v := .string x40) (fun a ha => jU (vs := [.string x40]) (.tmp (t := 2) (by kernel_rfl) .nil) ha (by kernel_rfl)) ⟨rfl, hI⟩
/-- cenotaph/cenotaphref11.Show -/
theorem c14 (w0 w : World) (Z : Hp) (A : HP) (hI : Inv w0 Z w A) (hT : Tabs Z) (uc : Int) (ud : (List Int)) (uf : ud.length = 32) (ua : Option Addr) (ue : Nat) (ub : (List ApiEvent)) (ug : RdS Z c_ApiEvent 37 ua ue ub) (r : (List ByteArray)) (h0 : ref11_Show uc ud ub = some r) :
  Calls prog 14 #[.agg ((([iv uc] : LV) ++ (q8c ud) ++ ([.slice ua ub.length ue] : LV))).toArray] w (fun e w' => ∃ (A1 : Option Addr) (c1 : Nat), e = .returned (.slice A1 r.length c1) ∧ Inv w0 Z w' (star (ownS 9 cS 1 A1 c1 r) A)) := by
 have e4 := calls_intro (R := (fun e w' => ∃ (A1 : Option Addr) (c1 : Nat), e = .returned (.slice A1 r.length c1) ∧ Inv w0 Z w' (star (ownS 9 cS 1 A1 c1 r) A))) (w := w) (args := [.agg ((([iv uc] : LV) ++ (q8c ud) ++ ([.slice ua ub.length ue] : LV))).toArray]) (fn := Go.Proofs.Tryz.f14) 29 Go.Proofs.Tryz.func14 (by rfl) Go.Proofs.Tryz.ntmps14 (by kernel_rfl)
 refine e4 ?_
 clear e4
 unfold ref11_Show at h0
 refine cQ (cR [0, 1] ?_)
 refine oC (Does.boxL (d := 1) (T := 32) (v := .agg ((([iv uc] : LV) ++ (q8c ud) ++ ([.slice ua ub.length ue] : LV))).toArray) ((([iv uc] : LV) ++ (q8c ud) ++ ([.slice ua ub.length ue] : LV))) (by kernel_rfl) hI (by kernel_rfl) ?_)
 intro b1 w hI
 refine oP (r := []) [1] (S' := [(1, pb b1)]) ?_
 refine oD (qT (cQ (cR [0] ?_)))
 refine oP (r := []) [0] (S' := [(1, pb b1), (3, .slice none 0 0)]) ?_
 refine oD (qT (cQ (cQ (cR [0] ?_))))
 refine oP (r := []) [0] (S' := [(1, pb b1), (3, .slice none 0 0), (4, iv 0)]) ?_
 refine oD (qT ?_)
 obtain ⟨r1, h1, h0⟩ := bindS h0
 refine CodT.meet1 (fun a w => ∃ (x2 : (List ByteArray)) (A3 : Option Addr) (cp4 : Nat), x2 = r1 ∧ Fr 29 [(3, .slice A3 x2.length cp4)] a ∧ Inv w0 Z w (star (ownS 9 cS 1 A3 cp4 x2) A)) ?_ ?_
 ·
  refine jB ?_
  have hI := ownS_nil (α := ByteArray) hI 9 cS 1
  refine (fun a ha => wp_loopN (fun k a w => ∃ (x5 : (List ByteArray)) (x8 : Int) (A6 : Option Addr) (cp7 : Nat), ref11_Show.l0 ub uc k x5 x8 = some r1 ∧ Fr 29 [(1, pb b1), (3, .slice A6 x5.length cp7), (4, iv x8)] a ∧ Inv w0 Z w (star (ownS 9 cS 1 A6 cp7 x5) (star (pt b1 (.cells ((([iv uc] : LV) ++ (q8c ud) ++ ([.slice ua ub.length ue] : LV))).toArray 32 (0, 0))) A))) ?_ FU a w ⟨([] : List ByteArray), 0, none, 0, h1, ha.keep [1, 3, 4] (by kernel_rfl), hI⟩)
  clear h1 hI
  rintro k a w ⟨x5, x8, A6, cp7, h1, ha, hI⟩
  rcases k with _ | k
  ·
   cases h1
  simp only [ref11_Show.l0] at h1
  refine CodT.of ?_ ha
  refine cQ (cQ (cR [0, 1, 2, 3, 4] ?_))
  refine oP (r := [2, 3, 4]) [0, 1] (S' := [(1, pb b1), (3, .slice A6 x5.length cp7), (4, iv x8), (5, iv x8), (6, .pointer (some ⟨b1, 33, none⟩))]) ?_
  refine oC (jY (jL (d := 7) (T := 24) (v := .slice ua ub.length ue) (by kernel_rfl) (ldB ty24 (l := (([iv uc] : LV) ++ (q8c ud) ++ ([.slice ua ub.length ue] : LV))) (o := 33) (v := .slice ua ub.length ue) (pick2 _ _ _) (seg_get [([iv uc] : LV), cA (Value.int .u8) ud, ([.slice ua ub.length ue] : LV)] 2 (by simp [cA_length, uf]) (by simp [cA_length, uf]) rfl))) hI ?_)
  refine oP (r := []) [3, 4] (S' := [(1, pb b1), (3, .slice A6 x5.length cp7), (4, iv x8), (9, .bool (decide (x8 < (ub.length : Int))))]) ?_
  refine oD (qT ?_)
  by_cases hb9 : (decide (x8 < (ub.length : Int))) = true
  ·
   rw [if_pos hb9] at h1
   refine cY (b := decide (x8 < (ub.length : Int))) hb9 ?_
   refine jS (qT (cQ (jB ?_)))
   refine CodT.drawI (n := 17) [15] (by kernel_rfl) (by kernel_rfl) hI ?_
   intro w hI
   refine gP 0 12 (.slice A6 x5.length cp7) ?_
   refine gP 1 13 (pb b1) ?_
   refine gP 3 15 (iv x8) ?_
   refine gP 7 19 (.pointer (some ⟨b1, 33, none⟩)) ?_
   refine gP 9 21 (iv x8) ?_
   refine gR (i := 2) 5 (jL (d := 14) (T := 3) (v := iv uc) (by kernel_rfl) (ldB ty3 (l := (([iv uc] : LV) ++ (q8c ud) ++ ([.slice ua ub.length ue] : LV))) (o := 0) (v := iv uc) (pick2 _ _ _) (by kernel_rfl))) hI ?_
   refine gP 4 16 (iv (wi64 (uc + x8))) ?_
   refine gR (i := 8) 5 (jL (d := 20) (T := 24) (v := .slice ua ub.length ue) (by kernel_rfl) (ldB ty24 (l := (([iv uc] : LV) ++ (q8c ud) ++ ([.slice ua ub.length ue] : LV))) (o := 33) (v := .slice ua ub.length ue) (pick2 _ _ _) (seg_get [([iv uc] : LV), cA (Value.int .u8) ud, ([.slice ua ub.length ue] : LV)] 2 (by simp [cA_length, uf]) (by simp [cA_length, uf]) rfl))) hI ?_
   obtain ⟨hg10, h1⟩ := guardS h1
   obtain ⟨g11, o15, hA12, hr13, hl14⟩ := RdS.get ug hg10.1 hg10.2
   refine gR (i := 10) 4 (Yl.indexSlice (d := 22) (T := 24) (cc := ue) (k := .i64) (j := x8) (g := g11) (o := o15) (by kernel_rfl) Go.Proofs.Tryz.underlying24 ty50 hA12 hg10.1 hg10.2) hI ?_
   refine gR (i := 11) 3 (jL (d := 23) (T := 50) (v := .agg (c_ApiEvent (gt ub x8)).toArray) (by kernel_rfl) (ldRN ty50 (cs := c_ApiEvent (gt ub x8)) 0 (fun w hC => hr13 w0 w _ hC) hl14 (whole _ _ hl14))) hI ?_
   obtain ⟨y17, hc16, h1⟩ := bindS h1
   try dsimp only at h1
   refine jO (i := 5) (by kernel_rfl) (jC (d := some 17) (n := 34) (vs := [iv (wi64 (uc + x8))]) (by kernel_rfl) en34 (c34 FU w0 w _ _ hI hT (wi64 (uc + x8)) _ hc16) ?_)
   rintro e w ⟨rfl, hI⟩
   refine ⟨_, rfl, ?_⟩
   refine ⟨fun _ _ => hI, ?_⟩
   obtain ⟨hg18, h1⟩ := guardS h1
   refine gR (i := 6) 4 (Yl.cat (d := 18) (T := 9) (x := y17) (y := (⟨#[58, 32]⟩ : ByteArray)) (by kernel_rfl) hg18) hI ?_
   obtain ⟨y20, hc19, h1⟩ := bindS h1
   try dsimp only at h1
   refine jO (i := 12) (by kernel_rfl) (jC (d := some 24) (n := 35) (vs := [.agg (c_ApiEvent (gt ub x8)).toArray]) (by kernel_rfl) en35 (c35 w0 w _ _ hI hT (gt ub x8) (inv_ApiEvent _ hl14) _ hc19) ?_)
   rintro e w ⟨rfl, hI⟩
   refine ⟨_, rfl, ?_⟩
   refine ⟨fun _ _ => hI, ?_⟩
   obtain ⟨hg21, h1⟩ := guardS h1
   refine gR (i := 13) 3 (Yl.cat (d := 25) (T := 9) (x := y17 ++ (⟨#[58, 32]⟩ : ByteArray)) (y := y20) (by kernel_rfl) hg21) hI ?_
   refine jO (i := 14) (by kernel_rfl) (Does.buildSlice (en := cS) (d := 26) (n := 1) (T := 36) (ps := [(0, .string ((y17 ++ (⟨#[58, 32]⟩ : ByteArray)) ++ y20))]) ([(y17 ++ (⟨#[58, 32]⟩ : ByteArray)) ++ y20] : List ByteArray) (by kernel_rfl) Go.Proofs.Tryz.underlying36 ty9 (by kernel_rfl) (by kernel_rfl) (by kernel_rfl) (by kernel_rfl) (len_all (fun _ => rfl)) hI ?_)
   intro b22 w hI
   have hC := hI
   have hC := hC.drop
   refine ⟨fun _ _ => hC, ?_⟩
   obtain ⟨hg23, h1⟩ := guardS h1
   have hI := hI.mono (pick2 _ _ _)
   refine jO (i := 15) (by kernel_rfl) (Does.append (d := 27) (t := 36) (tx := 36) (ty := 36) (ys := x5) (zs := ([(y17 ++ (⟨#[58, 32]⟩ : ByteArray)) ++ y20] : List ByteArray)) (x := .slice (some ⟨b22, 0, none⟩) (([(y17 ++ (⟨#[58, 32]⟩ : ByteArray)) ++ y20] : List ByteArray).length) 1) (by kernel_rfl) Go.Proofs.Tryz.underlying36 ty9 (by kernel_rfl) hI (src_own Go.Proofs.Tryz.underlying36 (hI.mono (pick2 _ _ _)) (one_flat _ (fun _ => rfl))) (ownS_facts (hI.mono (pick2 _ _ _))).2.2 (by unfold LIM at hg23; omega) hg23 ?_)
   intro A24 cp25 w hI
   refine ⟨fun h => absurd h (by decide), ?_⟩
   refine gP 16 3 (.slice A24 ((x5 ++ ([(y17 ++ (⟨#[58, 32]⟩ : ByteArray)) ++ y20] : List ByteArray)).length) cp25) ?_
   refine jD (by kernel_rfl) ?_
   refine jN (qT (cR [0, 1, 2] ?_))
   refine oP (r := []) [0, 1, 2] (S' := [(1, pb b1), (3, .slice A24 ((x5 ++ ([(y17 ++ (⟨#[58, 32]⟩ : ByteArray)) ++ y20] : List ByteArray)).length) cp25), (4, iv (wi64 (x8 + 1)))]) ?_
   refine oD ?_
   have hI := hI.mono (pick2 _ _ _)
   have hI := hI.drop
   exact jT fun a ha => ⟨k, Nat.lt_succ_self k, x5 ++ ([(y17 ++ (⟨#[58, 32]⟩ : ByteArray)) ++ y20] : List ByteArray), wi64 (x8 + 1), A24, cp25, h1, ha.keep [1, 3, 4] (by kernel_rfl), hI⟩
  ·
   rw [if_neg hb9] at h1
   refine cN (b := decide (x8 < (ub.length : Int))) (by simpa using hb9) ?_
   refine jZ ?_
   refine jX (jX ?_)
   refine Qn.block ?_
   have hI := hI.mono (pick2 _ _ _)
   have hI := hI.drop
   have e := someS h1
   subst e
   exact jT fun a ha => ⟨x5, A6, cp7, rfl, ha.keep [3] (by kernel_rfl), hI⟩
 ·
  rintro a w ⟨x2, A3, cp4, rfl, ha, hI⟩
  try dsimp only at h0
  refine Qn.of ?_ ha
  refine qT (cQ (cR [0, 1] ?_))
  refine oP (r := []) [0, 1] (S' := [(2, .slice A3 x2.length cp4)]) ?_
  refine oD (qT (jE ?_))
  have e := someS h0
  subst e
  refine qK [2] (S' := [(2, .slice A3 x2.length cp4)]) ?_
  exact post_ret (v := .slice A3 x2.length cp4) (fun a ha => jU (vs := [.slice A3 x2.length cp4]) (.tmp (t := 2) (by kernel_rfl) .nil) ha (by kernel_rfl)) ⟨A3, cp4, rfl, hI⟩
/-- cenotaph/cenotaphref07.Texts -/
theorem c12 (w0 w : World) (Z : Hp) (A : HP) (hI : Inv w0 Z w A) (hT : Tabs Z) (A_a0 : Option Addr) (c_a0 : Nat) (a0 : (List ByteArray)) (hr_a0 : RdS Z cS 1 A_a0 c_a0 a0) (A_a1 : Option Addr) (c_a1 : Nat) (a1 : (List ByteArray)) (hr_a1 : RdS Z cS 1 A_a1 c_a1 a1) (r : Bool) (h0 : ref07_Texts a0 a1 = some r) :
  Calls prog 12 #[.slice A_a0 a0.length c_a0, .slice A_a1 a1.length c_a1] w (fun e w' => e = .returned (.bool r) ∧ Inv w0 Z w' A) := by
 have e4 := calls_intro (R := (fun e w' => e = .returned (.bool r) ∧ Inv w0 Z w' A)) (w := w) (args := [.slice A_a0 a0.length c_a0, .slice A_a1 a1.length c_a1]) (fn := Go.Proofs.Tryz.f12) 26 Go.Proofs.Tryz.func12 (by rfl) Go.Proofs.Tryz.ntmps12 (by kernel_rfl)
 refine e4 ?_
 clear e4
 unfold ref07_Texts at h0
 refine cQ (cR [0] ?_)
 refine oP (r := []) [0] (S' := [(0, .slice A_a0 a0.length c_a0), (1, .slice A_a1 a1.length c_a1)]) ?_
 refine oD (qT (cQ (cQ (cR [0, 1, 2, 3, 4] ?_))))
 refine oP (r := []) [0, 1, 2, 3, 4] (S' := [(0, .slice A_a0 a0.length c_a0), (1, .slice A_a1 a1.length c_a1), (10, .bool ((a0.length : Int) != (a1.length : Int)))]) ?_
 refine oD (qT ?_)
 by_cases hb1 : ((a0.length : Int) != (a1.length : Int)) = true
 ·
  rw [if_pos hb1] at h0
  refine cY (b := (a0.length : Int) != (a1.length : Int)) hb1 ?_
  refine cQ (cR [0] ?_)
  refine oP (r := []) [0] (S' := [(4, .bool false)]) ?_
  refine oD (qT (jE (jR ?_)))
  have e := someS h0
  subst e
  refine qK [4] (S' := [(4, .bool false)]) ?_
  exact post_ret (v := .bool false) (fun a ha => jU (vs := [.bool false]) (.tmp (t := 4) (by kernel_rfl) .nil) ha (by kernel_rfl)) ⟨rfl, hI⟩
 ·
  rw [if_neg hb1] at h0
  refine cN (b := (a0.length : Int) != (a1.length : Int)) (by simpa using hb1) ?_
  refine jS (qT (cQ (cQ (cR [0] ?_))))
  refine oP (r := []) [0] (S' := [(0, .slice A_a0 a0.length c_a0), (1, .slice A_a1 a1.length c_a1), (5, iv 0)]) ?_
  refine oD (qT ?_)
  obtain ⟨r1, h1, h0⟩ := bindS h0
  refine CodT.meet1 (fun a w => .inr () = r1 ∧ Fr 26 [] a ∧ Inv w0 Z w A) ?_ ?_
  ·
   refine jB ?_
   refine (fun a ha => wp_loopN (fun k a w => ∃ (x2 : Int), ref07_Texts.l0 a0 a1 k x2 = some r1 ∧ Fr 26 [(0, .slice A_a0 a0.length c_a0), (1, .slice A_a1 a1.length c_a1), (5, iv x2)] a ∧ Inv w0 Z w A) ?_ FU a w ⟨0, h1, ha.keep [0, 1, 5] (by kernel_rfl), hI⟩)
   clear h1 hI
   rintro k a w ⟨x2, h1, ha, hI⟩
   rcases k with _ | k
   ·
    cases h1
   simp only [ref07_Texts.l0] at h1
   refine CodT.of ?_ ha
   refine cQ (cQ (cR [0, 1, 2, 3] ?_))
   refine oP (r := []) [0, 1, 2, 3] (S' := [(0, .slice A_a0 a0.length c_a0), (1, .slice A_a1 a1.length c_a1), (5, iv x2), (14, .bool (decide (x2 < (a0.length : Int))))]) ?_
   refine oD (qT ?_)
   by_cases hb3 : (decide (x2 < (a0.length : Int))) = true
   ·
    rw [if_pos hb3] at h1
    refine cY (b := decide (x2 < (a0.length : Int))) hb3 ?_
    refine jS (qT (cQ (jB (cQ ?_))))
    refine CodT.drawI (n := 9) [] (by kernel_rfl) (by kernel_rfl) hI ?_
    intro w hI
    refine gP 0 17 (.slice A_a0 a0.length c_a0) ?_
    refine gP 1 18 (iv x2) ?_
    refine gP 4 21 (.slice A_a1 a1.length c_a1) ?_
    refine gP 5 22 (iv x2) ?_
    obtain ⟨hg4, h1⟩ := guardS h1
    obtain ⟨g5, o9, hA6, hr7, hl8⟩ := RdS.get hr_a0 hg4.1 hg4.2
    refine gR (i := 2) 2 (Yl.indexSlice (d := 19) (T := 36) (cc := c_a0) (k := .i64) (j := x2) (g := g5) (o := o9) (by kernel_rfl) Go.Proofs.Tryz.underlying36 ty9 hA6 hg4.1 hg4.2) hI ?_
    refine gR (i := 3) 2 (jL (d := 20) (T := 9) (v := .string (gt a0 x2)) (by kernel_rfl) (ldR ty9 (v := .string (gt a0 x2)) 0 (fun w hC => hr7 w0 w _ hC) (by kernel_rfl))) hI ?_
    obtain ⟨hg10, h1⟩ := guardS h1
    obtain ⟨g11, o15, hA12, hr13, hl14⟩ := RdS.get hr_a1 hg10.1 hg10.2
    refine gR (i := 6) 2 (Yl.indexSlice (d := 23) (T := 36) (cc := c_a1) (k := .i64) (j := x2) (g := g11) (o := o15) (by kernel_rfl) Go.Proofs.Tryz.underlying36 ty9 hA12 hg10.1 hg10.2) hI ?_
    refine gR (i := 7) 2 (jL (d := 24) (T := 9) (v := .string (gt a1 x2)) (by kernel_rfl) (ldR ty9 (v := .string (gt a1 x2)) 0 (fun w hC => hr13 w0 w _ hC) (by kernel_rfl))) hI ?_
    refine gP 8 25 (.bool (!(seq (gt a0 x2) (gt a1 x2)))) ?_
    refine jD (by kernel_rfl) ?_
    refine qT ?_
    by_cases hb16 : (!(seq (gt a0 x2) (gt a1 x2))) = true
    ·
     rw [if_pos hb16] at h1
     refine cY (b := !(seq (gt a0 x2) (gt a1 x2))) hb16 ?_
     refine cQ (cR [0] ?_)
     refine oP (r := []) [0] (S' := [(4, .bool false)]) ?_
     refine oD (qT (jE (jQ (jR (jR (jQ (jR (jR ?_))))))))
     have e := someS h1
     subst e
     try dsimp only at h0
     have e := someS h0
     subst e
     refine qK [4] (S' := [(4, .bool false)]) ?_
     exact post_ret (v := .bool false) (fun a ha => jU (vs := [.bool false]) (.tmp (t := 4) (by kernel_rfl) .nil) ha (by kernel_rfl)) ⟨rfl, hI⟩
    ·
     rw [if_neg hb16] at h1
     refine cN (b := !(seq (gt a0 x2) (gt a1 x2))) (by simpa using hb16) ?_
     refine jS (jN (qT (cR [0, 1, 2] ?_)))
     refine oP (r := []) [0, 1, 2] (S' := [(0, .slice A_a0 a0.length c_a0), (1, .slice A_a1 a1.length c_a1), (5, iv (wi64 (x2 + 1)))]) ?_
     refine oD ?_
     exact jT fun a ha => ⟨k, Nat.lt_succ_self k, wi64 (x2 + 1), h1, ha.keep [0, 1, 5] (by kernel_rfl), hI⟩
   ·
    rw [if_neg hb3] at h1
    refine cN (b := decide (x2 < (a0.length : Int))) (by simpa using hb3) ?_
    refine jZ ?_
    refine jX (jX ?_)
    refine Qn.block ?_
    have e := someS h1
    subst e
    exact jT fun a ha => ⟨rfl, ha.keep [] (by kernel_rfl), hI⟩
  ·
   rintro a w ⟨rfl, ha, hI⟩
   try dsimp only at h0
   refine Qn.of ?_ ha
   refine qT (cQ (cR [0] ?_))
   refine oP (r := []) [0] (S' := [(4, .bool true)]) ?_
   refine oD (qT (jE ?_))
   have e := someS h0
   subst e
   refine qK [4] (S' := [(4, .bool true)]) ?_
   exact post_ret (v := .bool true) (fun a ha => jU (vs := [.bool true]) (.tmp (t := 4) (by kernel_rfl) .nil) ha (by kernel_rfl)) ⟨rfl, hI⟩
end Go.Cen
