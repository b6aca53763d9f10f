/- That the machine computes these: walks, printed by a program of ours. -/
import Derived.Test.YtlojedndicppeaaGreatDoorPx
import Derived.Test.YtlojedndicppeaaGreatDoorWx4
set_option linter.unusedVariables false
set_option linter.unusedSimpArgs false
namespace Go.Cen
set_option maxRecDepth 100000
set_option maxHeartbeats 4000000
/-- cenotaph/cenotaphref04.GetNum -/
theorem c42 (w0 w : World) (Z : Hp) (A : HP) (hI : Inv w0 Z w A) (hT : Tabs Z) (a0 : ByteArray) (r : (Int × ByteArray × Bool)) (h0 : ref04_GetNum a0 = some r) :
  Calls prog 42 #[.string a0] w (fun e w' => e = .returned (.tuple #[iv r.1, .string r.2.1, .bool r.2.2]) ∧ Inv w0 Z w' A) := by
 have e4 := calls_intro (R := (fun e w' => e = .returned (.tuple #[iv r.1, .string r.2.1, .bool r.2.2]) ∧ Inv w0 Z w' A)) (w := w) (args := [.string a0]) (fn := Go.Proofs.Tryz.f42) 49 Go.Proofs.Tryz.func42 (by rfl) Go.Proofs.Tryz.ntmps42 (by kernel_rfl)
 refine e4 ?_
 clear e4
 unfold ref04_GetNum at h0
 refine cQ (cR [0, 1, 2] ?_)
 refine oP (r := []) [0, 1, 2] (S' := [(0, .string a0)]) ?_
 refine oD (qT (cQ (cR [0] ?_)))
 refine oP (r := []) [0] (S' := [(0, .string a0), (5, iv 0)]) ?_
 refine oD (qT (cQ (cR [0] ?_)))
 refine oP (r := []) [0] (S' := [(0, .string a0), (5, iv 0), (6, iv 1)]) ?_
 refine oD (qT (cQ (cQ (cR [0] ?_))))
 refine oP (r := []) [0] (S' := [(0, .string a0), (5, iv 0), (6, iv 1), (7, iv 0)]) ?_
 refine oD (qT ?_)
 obtain ⟨r1, h1, h0⟩ := bindS h0
 refine CodT.meet1 (fun a w => .inr () = r1 ∧ Fr 49 [] a ∧ Inv w0 Z w A) ?_ ?_
 ·
  refine jB ?_
  refine (fun a ha => wp_loopN (fun k a w => ∃ (x1 : Int) (x2 : Int) (x3 : Int), ref04_GetNum.l0 a0 k x1 x2 x3 = some r1 ∧ Fr 49 [(0, .string a0), (5, iv x1), (6, iv x2), (7, iv x3)] a ∧ Inv w0 Z w A) ?_ FU a w ⟨0, 1, 0, h1, ha.keep [0, 5, 6, 7] (by kernel_rfl), hI⟩)
  clear h1 hI
  rintro k a w ⟨x1, x2, x3, h1, ha, hI⟩
  rcases k with _ | k
  ·
   cases h1
  simp only [ref04_GetNum.l0] at h1
  refine CodT.of ?_ ha
  refine cQ ?_
  obtain ⟨r2, h2, h1⟩ := bindS h1
  refine jM (fun a w => ∃ (x4 : Bool), x4 = r2 ∧ Fr 49 [(0, .string a0), (5, iv x1), (6, iv x2), (7, iv x3), (15, .bool x4)] a ∧ Inv w0 Z w A) ?_ ?_
  ·
   refine cR [0, 1, 2, 3, 4, 5, 6, 7] ?_
   refine oP (r := [5, 6, 7]) [0, 1, 2, 3, 4] (S' := [(0, .string a0), (5, iv x1), (6, iv x2), (7, iv x3), (12, .bool (decide (x3 < (a0.size : Int))))]) ?_
   by_cases hb5 : (decide (x3 < (a0.size : Int))) = true
   ·
    rw [if_pos hb5] at h2
    refine OpsT.keep [0, 5, 6, 7, 12] (S' := [(0, .string a0), (5, iv x1), (6, iv x2), (7, iv x3), (12, .bool true)]) (by (try simp only [hb5]); kernel_rfl) ?_
    refine oP (r := []) [5, 6, 7] (S' := [(0, .string a0), (5, iv x1), (6, iv x2), (7, iv x3), (15, .bool (decide (x3 < 8)))]) ?_
    refine oD ?_
    have e := someS h2
    subst e
    exact jT fun a ha => ⟨decide (x3 < 8), rfl, ha.keep [0, 5, 6, 7, 15] (by kernel_rfl), hI⟩
   ·
    rw [if_neg hb5] at h2
    have hb5 : (decide (x3 < (a0.size : Int))) = false := by simpa using hb5
    refine OpsT.keep [0, 5, 6, 7, 12] (S' := [(0, .string a0), (5, iv x1), (6, iv x2), (7, iv x3), (12, .bool false)]) (by (try simp only [hb5]); kernel_rfl) ?_
    refine oP (r := []) [5, 6, 7] (S' := [(0, .string a0), (5, iv x1), (6, iv x2), (7, iv x3), (15, .bool false)]) ?_
    refine oD ?_
    have e := someS h2
    subst e
    exact jT fun a ha => ⟨false, rfl, ha.keep [0, 5, 6, 7, 15] (by kernel_rfl), hI⟩
  ·
   rintro a w ⟨x4, rfl, ha, hI⟩
   try dsimp only at h1
   refine CodT.of ?_ ha
   by_cases hb6 : x4 = true
   ·
    rw [if_pos hb6] at h1
    refine cY (b := x4) hb6 ?_
    refine jS (qT (cQ (jB (cQ (cR [0, 1, 2, 3, 4, 5, 6, 7, 8, 9] ?_)))))
    refine oP (r := [3, 4, 5, 6, 7, 8, 9]) [0, 1, 2] (S' := [(0, .string a0), (6, iv x2), (7, iv x3), (18, iv x1), (19, .string a0), (20, iv x3)]) ?_
    obtain ⟨hg7, h1⟩ := guardS h1
    refine oC (jY (Yl.indexStr (d := 21) (T := 9) (k := .i64) (j := x3) (s := a0) (by kernel_rfl) Go.Proofs.Tryz.underlying9 hg7.1 hg7.2) hI ?_)
    refine oP (r := []) [4, 5, 6, 7, 8, 9] (S' := [(0, .string a0), (5, iv (wi64 (x1 + (wi64 (((wi64 (bt a0 x3)).tmod 128) * x2))))), (6, iv x2), (7, iv x3)]) ?_
    refine oD (qT (cQ (cR [0, 1, 2] ?_)))
    refine oP (r := []) [0, 1, 2] (S' := [(0, .string a0), (5, iv (wi64 (x1 + (wi64 (((wi64 (bt a0 x3)).tmod 128) * x2))))), (6, iv (wi64 (x2 * 128))), (7, iv x3)]) ?_
    refine oD (qT (cQ (cR [0, 1, 2, 3] ?_)))
    refine oP (r := [2, 3]) [0, 1] (S' := [(0, .string a0), (5, iv (wi64 (x1 + (wi64 (((wi64 (bt a0 x3)).tmod 128) * x2))))), (6, iv (wi64 (x2 * 128))), (7, iv x3), (29, .string a0), (30, iv x3)]) ?_
    obtain ⟨hg8, h1⟩ := guardS h1
    refine oC (jY (Yl.indexStr (d := 31) (T := 9) (k := .i64) (j := x3) (s := a0) (by kernel_rfl) Go.Proofs.Tryz.underlying9 hg8.1 hg8.2) hI ?_)
    refine oP (r := []) [3] (S' := [(0, .string a0), (5, iv (wi64 (x1 + (wi64 (((wi64 (bt a0 x3)).tmod 128) * x2))))), (6, iv (wi64 (x2 * 128))), (7, iv x3), (32, .bool (decide ((bt a0 x3) < 128)))]) ?_
    refine oD (qT ?_)
    by_cases hb9 : (decide ((bt a0 x3) < 128)) = true
    ·
     rw [if_pos hb9] at h1
     refine cY (b := decide ((bt a0 x3) < 128)) hb9 ?_
     refine cQ ?_
     obtain ⟨r2, h2, h1⟩ := bindS h1
     refine jM (fun a w => ∃ (x10 : Bool), x10 = r2 ∧ Fr 49 [(0, .string a0), (5, iv (wi64 (x1 + (wi64 (((wi64 (bt a0 x3)).tmod 128) * x2))))), (7, iv x3), (43, .bool x10)] a ∧ Inv w0 Z w A) ?_ ?_
     ·
      refine CodT.drawI (n := 11) [] (by kernel_rfl) (by kernel_rfl) hI ?_
      intro w hI
      refine gP 0 33 (iv (wi64 (x1 + (wi64 (((wi64 (bt a0 x3)).tmod 128) * x2))))) ?_
      refine gP 1 34 (.bool (decide ((wi64 (x1 + (wi64 (((wi64 (bt a0 x3)).tmod 128) * x2)))) > 1125899906842624))) ?_
      refine gP 2 35 (.bool (decide ((wi64 (x1 + (wi64 (((wi64 (bt a0 x3)).tmod 128) * x2)))) > 1125899906842624))) ?_
      by_cases hb11 : (decide ((wi64 (x1 + (wi64 (((wi64 (bt a0 x3)).tmod 128) * x2)))) > 1125899906842624)) = true
      ·
       rw [if_pos hb11] at h2
       refine GmT.keep [0, 5, 7, 35] (S' := [(0, .string a0), (5, iv (wi64 (x1 + (wi64 (((wi64 (bt a0 x3)).tmod 128) * x2))))), (7, iv x3), (35, .bool true)]) (by (try simp only [hb11]); kernel_rfl) ?_
       refine gP 3 36 (undef) ?_
       refine gP 4 37 (undef) ?_
       refine gP 5 38 (undef) ?_
       refine gP 6 39 (undef) ?_
       refine gP 7 40 (undef) ?_
       refine gP 8 41 (undef) ?_
       refine gP 9 42 (undef) ?_
       refine gP 10 43 (.bool true) ?_
       refine jD (by kernel_rfl) ?_
       have e := someS h2
       subst e
       exact jT fun a ha => ⟨true, rfl, ha.keep [0, 5, 7, 43] (by kernel_rfl), hI⟩
      ·
       rw [if_neg hb11] at h2
       have hb11 : (decide ((wi64 (x1 + (wi64 (((wi64 (bt a0 x3)).tmod 128) * x2)))) > 1125899906842624)) = false := by simpa using hb11
       refine GmT.keep [0, 5, 7, 35] (S' := [(0, .string a0), (5, iv (wi64 (x1 + (wi64 (((wi64 (bt a0 x3)).tmod 128) * x2))))), (7, iv x3), (35, .bool false)]) (by (try simp only [hb11]); kernel_rfl) ?_
       refine gP 3 36 (iv (wi64 (x1 + (wi64 (((wi64 (bt a0 x3)).tmod 128) * x2))))) ?_
       refine gP 5 38 (.string a0) ?_
       refine gP 6 39 (iv x3) ?_
       refine gP 7 40 (iv (wi64 (x3 + 1))) ?_
       obtain ⟨hg12, h2⟩ := guardS h2
       refine gR (i := 8) 2 (Yl.sliceStr01 (d := 41) (T := 9) (s := a0) (hi := wi64 (x3 + 1)) (by kernel_rfl) Go.Proofs.Tryz.underlying9 hg12) hI ?_
       obtain ⟨y14, hc13, h2⟩ := bindS h2
       try dsimp only at h2
       refine jO (i := 4) (by kernel_rfl) (jC (d := some 37) (n := 27) (vs := [iv (wi64 (x1 + (wi64 (((wi64 (bt a0 x3)).tmod 128) * x2))))]) (by kernel_rfl) en27 (c27 w0 w _ _ hI hT (wi64 (x1 + (wi64 (((wi64 (bt a0 x3)).tmod 128) * x2)))) _ hc13) ?_)
       rintro e w ⟨rfl, hI⟩
       refine ⟨_, rfl, ?_⟩
       refine ⟨fun _ _ => hI, ?_⟩
       refine gP 9 42 (.bool (!(seq y14 (sx a0 0 (wi64 (x3 + 1)))))) ?_
       refine gP 10 43 (.bool (!(seq y14 (sx a0 0 (wi64 (x3 + 1)))))) ?_
       refine jD (by kernel_rfl) ?_
       have e := someS h2
       subst e
       exact jT fun a ha => ⟨!(seq y14 (sx a0 0 (wi64 (x3 + 1)))), rfl, ha.keep [0, 5, 7, 43] (by kernel_rfl), hI⟩
     ·
      rintro a w ⟨x10, rfl, ha, hI⟩
      try dsimp only at h1
      refine CodT.of ?_ ha
      by_cases hb15 : x10 = true
      ·
       rw [if_pos hb15] at h1
       refine cY (b := x10) hb15 ?_
       refine cQ (cR [0, 1, 2] ?_)
       refine oP (r := []) [0, 1, 2] (S' := [(2, iv 0), (3, .string q8e), (4, .bool false)]) ?_
       refine oD (qT (jE (jR (jQ (jR (jR (jQ (jR (jR ?_)))))))))
       have e := someS h1
       subst e
       try dsimp only at h0
       have e := someS h0
       subst e
       refine qK [2, 3, 4] (S' := [(2, iv 0), (3, .string q8e), (4, .bool false)]) ?_
       exact post_ret (v := .tuple #[iv 0, .string q8e, .bool false]) (fun a ha => jU (vs := [iv 0, .string q8e, .bool false]) (.tmp (t := 2) (by kernel_rfl) (.tmp (t := 3) (by kernel_rfl) (.tmp (t := 4) (by kernel_rfl) .nil))) ha (by kernel_rfl)) ⟨rfl, hI⟩
      ·
       rw [if_neg hb15] at h1
       refine cN (b := x10) (by simpa using hb15) ?_
       refine jS (qT (cQ ?_))
       refine CodT.drawI (n := 8) [] (by kernel_rfl) (by kernel_rfl) hI ?_
       intro w hI
       refine gP 0 44 (iv (wi64 (x1 + (wi64 (((wi64 (bt a0 x3)).tmod 128) * x2))))) ?_
       refine gP 1 45 (.string a0) ?_
       refine gP 2 46 (iv x3) ?_
       refine gP 3 47 (iv (wi64 (x3 + 1))) ?_
       refine gP 5 2 (iv (wi64 (x1 + (wi64 (((wi64 (bt a0 x3)).tmod 128) * x2))))) ?_
       obtain ⟨hg16, h1⟩ := guardS h1
       refine gR (i := 4) 2 (Yl.sliceStr10 (d := 48) (T := 9) (s := a0) (lo := wi64 (x3 + 1)) (by kernel_rfl) Go.Proofs.Tryz.underlying9 hg16) hI ?_
       refine gP 6 3 (.string (sx a0 (wi64 (x3 + 1)) (a0.size : Int))) ?_
       refine gP 7 4 (.bool true) ?_
       refine jD (by kernel_rfl) ?_
       refine qT (jE (jQ (jR (jR (jQ (jR (jR ?_)))))))
       have e := someS h1
       subst e
       try dsimp only at h0
       have e := someS h0
       subst e
       refine qK [2, 3, 4] (S' := [(2, iv (wi64 (x1 + (wi64 (((wi64 (bt a0 x3)).tmod 128) * x2))))), (3, .string (sx a0 (wi64 (x3 + 1)) (a0.size : Int))), (4, .bool true)]) ?_
       exact post_ret (v := .tuple #[iv (wi64 (x1 + (wi64 (((wi64 (bt a0 x3)).tmod 128) * x2)))), .string (sx a0 (wi64 (x3 + 1)) (a0.size : Int)), .bool true]) (fun a ha => jU (vs := [iv (wi64 (x1 + (wi64 (((wi64 (bt a0 x3)).tmod 128) * x2)))), .string (sx a0 (wi64 (x3 + 1)) (a0.size : Int)), .bool true]) (.tmp (t := 2) (by kernel_rfl) (.tmp (t := 3) (by kernel_rfl) (.tmp (t := 4) (by kernel_rfl) .nil))) ha (by kernel_rfl)) ⟨rfl, hI⟩
    ·
     rw [if_neg hb9] at h1
     refine cN (b := decide ((bt a0 x3) < 128)) (by simpa using hb9) ?_
     refine jS (jN (qT (cR [0, 1, 2] ?_)))
     refine oP (r := []) [0, 1, 2] (S' := [(0, .string a0), (5, iv (wi64 (x1 + (wi64 (((wi64 (bt a0 x3)).tmod 128) * x2))))), (6, iv (wi64 (x2 * 128))), (7, iv (wi64 (x3 + 1)))]) ?_
     refine oD ?_
     exact jT fun a ha => ⟨k, Nat.lt_succ_self k, wi64 (x1 + (wi64 (((wi64 (bt a0 x3)).tmod 128) * x2))), wi64 (x2 * 128), wi64 (x3 + 1), h1, ha.keep [0, 5, 6, 7] (by kernel_rfl), hI⟩
   ·
    rw [if_neg hb6] at h1
    refine cN (b := x4) (by simpa using hb6) ?_
    refine jZ ?_
    refine jX (jX ?_)
    refine Qn.block ?_
    have e := someS h1
    subst e
    exact jT fun a ha => ⟨rfl, ha.keep [] (by kernel_rfl), hI⟩
 ·
  rintro a w ⟨rfl, ha, hI⟩
  try dsimp only at h0
  refine Qn.of ?_ ha
  refine qT (cQ (cR [0, 1, 2] ?_))
  refine oP (r := []) [0, 1, 2] (S' := [(2, iv 0), (3, .string q8e), (4, .bool false)]) ?_
  refine oD (qT (jE ?_))
  have e := someS h0
  subst e
  refine qK [2, 3, 4] (S' := [(2, iv 0), (3, .string q8e), (4, .bool false)]) ?_
  exact post_ret (v := .tuple #[iv 0, .string q8e, .bool false]) (fun a ha => jU (vs := [iv 0, .string q8e, .bool false]) (.tmp (t := 2) (by kernel_rfl) (.tmp (t := 3) (by kernel_rfl) (.tmp (t := 4) (by kernel_rfl) .nil))) ha (by kernel_rfl)) ⟨rfl, hI⟩
/-- cenotaph/cenotaphref04.GetSum -/
theorem c43 (w0 w : World) (Z : Hp) (A : HP) (hI : Inv w0 Z w A) (hT : Tabs Z) (a0 : ByteArray) (r : ((List Int) × ByteArray × Bool)) (h0 : ref04_GetSum a0 = some r) :
  Calls prog 43 #[.string a0] w (fun e w' => e = .returned (.tuple #[.agg (q8c r.1).toArray, .string r.2.1, .bool r.2.2]) ∧ r.1.length = 32 ∧ Inv w0 Z w' A) := by
 have e4 := calls_intro (R := (fun e w' => e = .returned (.tuple #[.agg (q8c r.1).toArray, .string r.2.1, .bool r.2.2]) ∧ r.1.length = 32 ∧ Inv w0 Z w' A)) (w := w) (args := [.string a0]) (fn := Go.Proofs.Tryz.f43) 23 Go.Proofs.Tryz.func43 (by rfl) Go.Proofs.Tryz.ntmps43 (by kernel_rfl)
 refine e4 ?_
 clear e4
 unfold ref04_GetSum at h0
 refine cQ (cR [0, 1, 2] ?_)
 refine oC (jA (d := 2) (T := 23) (q8c q8z) (by kernel_rfl) ty23 hI (by kernel_rfl) ?_)
 intro b1 w hI
 refine oP (r := []) [1, 2] (S' := [(0, .string a0), (2, pb b1)]) ?_
 refine oD (qT (cQ (cR [0] ?_)))
 refine oC (jA (d := 5) (T := 23) (q8c q8z) (by kernel_rfl) ty23 hI (by kernel_rfl) ?_)
 intro b2 w hI
 refine oD (qT (cQ (cQ (cR [0, 1, 2] ?_))))
 refine oP (r := []) [0, 1, 2] (S' := [(0, .string a0), (2, pb b1), (5, pb b2), (9, .bool (decide ((a0.size : Int) < 32)))]) ?_
 refine oD (qT ?_)
 by_cases hb3 : (decide ((a0.size : Int) < 32)) = true
 ·
  rw [if_pos hb3] at h0
  refine cY (b := decide ((a0.size : Int) < 32)) hb3 ?_
  refine cQ (cR [0, 1, 2, 3] ?_)
  refine oC (jY (jL (d := 10) (T := 23) (v := .agg (q8c q8z).toArray) (by kernel_rfl) (ldBN ty23 (l := cA (Value.int .u8) q8z) (o := 0) (cs := cA (Value.int .u8) q8z) (ent_refl _) ((cA_length _ _).trans (by kernel_rfl)) (whole _ _ ((cA_length _ _).trans (by kernel_rfl))))) hI ?_)
  have hI := hI.mono (pick2 _ _ _)
  refine oC (jV (T := 23) (b := b1) (n := 32) (xs := q8z) (ys := q8z) (by kernel_rfl) ty23 hI (fun _ => rfl) (by kernel_rfl) (by kernel_rfl) ?_)
  intro w hI
  refine oP (r := []) [2, 3] (S' := [(2, pb b1), (3, .string q8e), (4, .bool false)]) ?_
  refine oD (qT (jE (jR ?_)))
  have hL4 := (ldBN ty23 (l := cA (Value.int .u8) q8z) (o := 0) (cs := cA (Value.int .u8) q8z) (ent_refl _) ((cA_length _ _).trans (by kernel_rfl)) (whole _ _ ((cA_length _ _).trans (by kernel_rfl)))) w hI
  have hI := hI.drop
  have hI := hI.drop
  have e := someS h0
  subst e
  refine qK [2, 3, 4] (S' := [(2, pb b1), (3, .string q8e), (4, .bool false)]) ?_
  exact post_ret (v := .tuple #[.agg (q8c q8z).toArray, .string q8e, .bool false]) (fun a ha => jU (vs := [.agg (q8c q8z).toArray, .string q8e, .bool false]) (.cell (t := 2) (T := 23) (ad := ⟨b1, 0, none⟩) (by kernel_rfl) hL4 (.tmp (t := 3) (by kernel_rfl) (.tmp (t := 4) (by kernel_rfl) .nil))) ha (by kernel_rfl)) ⟨rfl, (by kernel_rfl), hI⟩
 ·
  rw [if_neg hb3] at h0
  refine cN (b := decide ((a0.size : Int) < 32)) (by simpa using hb3) ?_
  refine jS (qT (cQ (cQ (cR [0] ?_))))
  refine oP (r := []) [0] (S' := [(0, .string a0), (2, pb b1), (5, pb b2), (6, iv 0)]) ?_
  refine oD (qT ?_)
  obtain ⟨r1, h1, h0⟩ := bindS h0
  refine CodT.meet1 (fun a w => ∃ (x5 : (List Int)), x5 = r1 ∧ Fr 23 [(0, .string a0), (2, pb b1), (5, pb b2)] a ∧ Inv w0 Z w (star (pt b2 (.cells (q8c x5).toArray 23 (0, 0))) (star (pt b1 (.cells (q8c q8z).toArray 23 (0, 0))) A)) ∧ x5.length = 32) ?_ ?_
  ·
   refine jB ?_
   refine (fun a ha => wp_loopN (fun k a w => ∃ (x7 : Int) (x8 : (List Int)), ref04_GetSum.l0 a0 k x7 x8 = some r1 ∧ Fr 23 [(0, .string a0), (2, pb b1), (5, pb b2), (6, iv x7)] a ∧ Inv w0 Z w (star (pt b2 (.cells (q8c x8).toArray 23 (0, 0))) (star (pt b1 (.cells (q8c q8z).toArray 23 (0, 0))) A)) ∧ x8.length = 32) ?_ FU a w ⟨0, q8z, h1, ha.keep [0, 2, 5, 6] (by kernel_rfl), hI, (by kernel_rfl)⟩)
   clear h1 hI
   rintro k a w ⟨x7, x8, h1, ha, hI, hl9⟩
   rcases k with _ | k
   ·
    cases h1
   simp only [ref04_GetSum.l0] at h1
   refine CodT.of ?_ ha
   refine cQ (cQ (cR [0, 1] ?_))
   refine oP (r := []) [0, 1] (S' := [(0, .string a0), (2, pb b1), (5, pb b2), (6, iv x7), (12, .bool (decide (x7 < 32)))]) ?_
   refine oD (qT ?_)
   by_cases hb10 : (decide (x7 < 32)) = true
   ·
    rw [if_pos hb10] at h1
    refine cY (b := decide (x7 < 32)) hb10 ?_
    refine jS (qT (cQ (jB (cR [0, 1, 2, 3, 4, 5] ?_))))
    refine oP (r := [3, 4, 5]) [0, 1, 2] (S' := [(0, .string a0), (2, pb b1), (5, pb b2), (6, iv x7), (15, iv x7), (16, .string a0), (17, iv x7)]) ?_
    obtain ⟨hg11, h1⟩ := guardS h1
    refine oC (jY (Yl.indexStr (d := 18) (T := 9) (k := .i64) (j := x7) (s := a0) (by kernel_rfl) Go.Proofs.Tryz.underlying9 hg11.1 hg11.2) hI ?_)
    obtain ⟨hg12, h1⟩ := guardS h1
    refine oC (jY (Yl.indexArr (d := 19) (T := 23) (k := .i64) (j := x7) (g := b2) (o := 0) (by kernel_rfl) Go.Proofs.Tryz.underlying23 ty5 hg12.1 hg12.2) hI ?_)
    refine oC (Does.storeArr (e := (Value.int .u8)) (xs := x8) (u := bt a0 x7) (T := 5) (b := b2) (j := x7) (by kernel_rfl) ty5 hI (by kernel_rfl) (by kernel_rfl) hg12.1 (by have := And.intro hl9 hg12.2; omega) ?_)
    intro w hI
    refine oD (jN (qT (cR [0, 1, 2] ?_)))
    refine oP (r := []) [0, 1, 2] (S' := [(0, .string a0), (2, pb b1), (5, pb b2), (6, iv (wi64 (x7 + 1)))]) ?_
    refine oD ?_
    exact jT fun a ha => ⟨k, Nat.lt_succ_self k, wi64 (x7 + 1), st x8 x7 (bt a0 x7), h1, ha.keep [0, 2, 5, 6] (by kernel_rfl), hI, ((st_length _ _ _).trans hl9)⟩
   ·
    rw [if_neg hb10] at h1
    refine cN (b := decide (x7 < 32)) (by simpa using hb10) ?_
    refine jZ ?_
    refine jX (jX ?_)
    refine Qn.block ?_
    have e := someS h1
    subst e
    exact jT fun a ha => ⟨x8, rfl, ha.keep [0, 2, 5] (by kernel_rfl), hI, hl9⟩
  ·
   rintro a w ⟨x5, rfl, ha, hI, hl6⟩
   try dsimp only at h0
   refine Qn.of ?_ ha
   refine qT (cQ ?_)
   refine CodT.drawC (n := 6) (B := (star (pt b2 (.cells (q8c x5).toArray 23 (0, 0))) A)) [] (by kernel_rfl) (by kernel_rfl) hI ?_
   intro w hI
   refine gP 1 21 (.string a0) ?_
   have hC := hI
   have hC := hC.mono (pick2 _ _ _)
   have hC := hC.drop
   refine gR (i := 0) 2 (jL (d := 20) (T := 23) (v := .agg (q8c x5).toArray) (by kernel_rfl) (ldBN ty23 (l := cA (Value.int .u8) x5) (o := 0) (cs := cA (Value.int .u8) x5) (ent_refl _) ((cA_length _ _).trans hl6) (whole _ _ ((cA_length _ _).trans hl6)))) hC ?_
   obtain ⟨hg13, h0⟩ := guardS h0
   have hC := hI
   have hC := hC.mono (pick2 _ _ _)
   have hC := hC.drop
   refine gR (i := 2) 2 (Yl.sliceStr10 (d := 22) (T := 9) (s := a0) (lo := 32) (by kernel_rfl) Go.Proofs.Tryz.underlying9 hg13) hC ?_
   have hI := hI.mono (pick2 _ _ _)
   refine jO (i := 3) (by kernel_rfl) (jV (T := 23) (b := b1) (n := 32) (xs := q8z) (ys := x5) (by kernel_rfl) ty23 hI (fun _ => rfl) (by kernel_rfl) hl6 ?_)
   intro w hI
   have hC := hI
   have hC := hC.drop
   refine ⟨fun _ _ => hC, ?_⟩
   refine gP 4 3 (.string (sx a0 32 (a0.size : Int))) ?_
   refine gP 5 4 (.bool true) ?_
   refine jD (by kernel_rfl) ?_
   refine qT (jE ?_)
   have hL14 := (ldBN ty23 (l := cA (Value.int .u8) x5) (o := 0) (cs := cA (Value.int .u8) x5) (ent_refl _) ((cA_length _ _).trans hl6) (whole _ _ ((cA_length _ _).trans hl6))) w hI
   have hI := hI.drop
   have hI := hI.drop
   have e := someS h0
   subst e
   refine qK [2, 3, 4] (S' := [(2, pb b1), (3, .string (sx a0 32 (a0.size : Int))), (4, .bool true)]) ?_
   exact post_ret (v := .tuple #[.agg (q8c x5).toArray, .string (sx a0 32 (a0.size : Int)), .bool true]) (fun a ha => jU (vs := [.agg (q8c x5).toArray, .string (sx a0 32 (a0.size : Int)), .bool true]) (.cell (t := 2) (T := 23) (ad := ⟨b1, 0, none⟩) (by kernel_rfl) hL14 (.tmp (t := 3) (by kernel_rfl) (.tmp (t := 4) (by kernel_rfl) .nil))) ha (by kernel_rfl)) ⟨rfl, hl6, hI⟩
/-- cenotaph/cenotaphref04.GetText -/
theorem c44 (w0 w : World) (Z : Hp) (A : HP) (hI : Inv w0 Z w A) (hT : Tabs Z) (a0 : ByteArray) (a1 : Int) (r : (ByteArray × ByteArray × Bool)) (h0 : ref04_GetText a0 a1 = some r) :
  Calls prog 44 #[.string a0, iv a1] w (fun e w' => e = .returned (.tuple #[.string r.1, .string r.2.1, .bool r.2.2]) ∧ Inv w0 Z w' A) := by
 have e4 := calls_intro (R := (fun e w' => e = .returned (.tuple #[.string r.1, .string r.2.1, .bool r.2.2]) ∧ Inv w0 Z w' A)) (w := w) (args := [.string a0, iv a1]) (fn := Go.Proofs.Tryz.f44) 35 Go.Proofs.Tryz.func44 (by rfl) Go.Proofs.Tryz.ntmps44 (by kernel_rfl)
 refine e4 ?_
 clear e4
 unfold ref04_GetText at h0
 refine cQ (cR [0, 1, 2] ?_)
 refine oP (r := []) [0, 1, 2] (S' := [(0, .string a0), (1, iv a1)]) ?_
 refine oD (qT (cQ (cR [0, 1, 2, 3, 4, 5, 6, 7, 8] ?_)))
 refine oP (r := [1, 2, 3, 4, 5, 6, 7, 8]) [0] (S' := [(1, iv a1), (11, .string a0)]) ?_
 obtain ⟨⟨y2, y3, y4⟩, hc1, h0⟩ := bindS h0
 try dsimp only at h0
 refine oC (jC (d := some 12) (n := 42) (vs := [.string a0]) (by kernel_rfl) en42 (c42 w0 w _ _ hI hT a0 _ hc1) ?_)
 rintro e w ⟨rfl, hI⟩
 refine ⟨_, rfl, ?_⟩
 refine oP (r := []) [2, 3, 4, 5, 6, 7, 8] (S' := [(1, iv a1), (7, iv y2), (8, .string y3), (9, .bool y4)]) ?_
 refine oD (qT (cQ ?_))
 obtain ⟨r1, h1, h0⟩ := bindS h0
 refine jM (fun a w => ∃ (x5 : Bool), x5 = r1 ∧ Fr 35 [(7, iv y2), (8, .string y3), (28, .bool x5)] a ∧ Inv w0 Z w A) ?_ ?_
 ·
  refine cR [0, 1, 2, 3, 4, 5, 6, 7, 8, 9, 10, 11, 12] ?_
  refine oP (r := [3, 4, 5, 6, 7, 8, 9, 10, 11, 12]) [0, 1, 2] (S' := [(1, iv a1), (7, iv y2), (8, .string y3), (18, .bool (!y4))]) ?_
  by_cases hb6 : (!y4) = true
  ·
   rw [if_pos hb6] at h1
   refine OpsT.keep [1, 7, 8, 18] (S' := [(1, iv a1), (7, iv y2), (8, .string y3), (18, .bool true)]) (by (try simp only [hb6]); kernel_rfl) ?_
   refine oP (r := []) [3, 4, 5, 6, 7, 8, 9, 10, 11, 12] (S' := [(7, iv y2), (8, .string y3), (28, .bool true)]) ?_
   refine oD ?_
   have e := someS h1
   subst e
   exact jT fun a ha => ⟨true, rfl, ha.keep [7, 8, 28] (by kernel_rfl), hI⟩
  ·
   rw [if_neg hb6] at h1
   have hb6 : (!y4) = false := by simpa using hb6
   refine OpsT.keep [1, 7, 8, 18] (S' := [(1, iv a1), (7, iv y2), (8, .string y3), (18, .bool false)]) (by (try simp only [hb6]); kernel_rfl) ?_
   refine oP (r := [9, 10, 11, 12]) [3, 4, 5, 6, 7, 8] (S' := [(1, iv a1), (7, iv y2), (8, .string y3), (24, .bool (decide (y2 > (y3.size : Int))))]) ?_
   by_cases hb7 : (decide (y2 > (y3.size : Int))) = true
   ·
    rw [if_pos hb7] at h1
    refine OpsT.keep [1, 7, 8, 24] (S' := [(1, iv a1), (7, iv y2), (8, .string y3), (24, .bool true)]) (by (try simp only [hb7]); kernel_rfl) ?_
    refine oP (r := []) [9, 10, 11, 12] (S' := [(7, iv y2), (8, .string y3), (28, .bool true)]) ?_
    refine oD ?_
    have e := someS h1
    subst e
    exact jT fun a ha => ⟨true, rfl, ha.keep [7, 8, 28] (by kernel_rfl), hI⟩
   ·
    rw [if_neg hb7] at h1
    have hb7 : (decide (y2 > (y3.size : Int))) = false := by simpa using hb7
    refine OpsT.keep [1, 7, 8, 24] (S' := [(1, iv a1), (7, iv y2), (8, .string y3), (24, .bool false)]) (by (try simp only [hb7]); kernel_rfl) ?_
    refine oP (r := []) [9, 10, 11, 12] (S' := [(7, iv y2), (8, .string y3), (28, .bool (decide (y2 > a1)))]) ?_
    refine oD ?_
    have e := someS h1
    subst e
    exact jT fun a ha => ⟨decide (y2 > a1), rfl, ha.keep [7, 8, 28] (by kernel_rfl), hI⟩
 ·
  rintro a w ⟨x5, rfl, ha, hI⟩
  try dsimp only at h0
  refine CodT.of ?_ ha
  by_cases hb8 : x5 = true
  ·
   rw [if_pos hb8] at h0
   refine cY (b := x5) hb8 ?_
   refine cQ (cR [0, 1, 2] ?_)
   refine oP (r := []) [0, 1, 2] (S' := [(4, .string q8e), (5, .string q8e), (6, .bool false)]) ?_
   refine oD (qT (jE (jR ?_)))
   have e := someS h0
   subst e
   refine qK [4, 5, 6] (S' := [(4, .string q8e), (5, .string q8e), (6, .bool false)]) ?_
   exact post_ret (v := .tuple #[.string q8e, .string q8e, .bool false]) (fun a ha => jU (vs := [.string q8e, .string q8e, .bool false]) (.tmp (t := 4) (by kernel_rfl) (.tmp (t := 5) (by kernel_rfl) (.tmp (t := 6) (by kernel_rfl) .nil))) ha (by kernel_rfl)) ⟨rfl, hI⟩
  ·
   rw [if_neg hb8] at h0
   refine cN (b := x5) (by simpa using hb8) ?_
   refine jS (qT (cQ ?_))
   refine CodT.drawI (n := 9) [] (by kernel_rfl) (by kernel_rfl) hI ?_
   intro w hI
   refine gP 0 29 (.string y3) ?_
   refine gP 1 30 (iv y2) ?_
   refine gP 3 32 (.string y3) ?_
   refine gP 4 33 (iv y2) ?_
   obtain ⟨hg9, h0⟩ := guardS h0
   refine gR (i := 2) 2 (Yl.sliceStr01 (d := 31) (T := 9) (s := y3) (hi := y2) (by kernel_rfl) Go.Proofs.Tryz.underlying9 hg9) hI ?_
   refine gP 6 4 (.string (sx y3 0 y2)) ?_
   obtain ⟨hg10, h0⟩ := guardS h0
   refine gR (i := 5) 2 (Yl.sliceStr10 (d := 34) (T := 9) (s := y3) (lo := y2) (by kernel_rfl) Go.Proofs.Tryz.underlying9 hg10) hI ?_
   refine gP 7 5 (.string (sx y3 y2 (y3.size : Int))) ?_
   refine gP 8 6 (.bool true) ?_
   refine jD (by kernel_rfl) ?_
   refine qT (jE ?_)
   have e := someS h0
   subst e
   refine qK [4, 5, 6] (S' := [(4, .string (sx y3 0 y2)), (5, .string (sx y3 y2 (y3.size : Int))), (6, .bool true)]) ?_
   exact post_ret (v := .tuple #[.string (sx y3 0 y2), .string (sx y3 y2 (y3.size : Int)), .bool true]) (fun a ha => jU (vs := [.string (sx y3 0 y2), .string (sx y3 y2 (y3.size : Int)), .bool true]) (.tmp (t := 4) (by kernel_rfl) (.tmp (t := 5) (by kernel_rfl) (.tmp (t := 6) (by kernel_rfl) .nil))) ha (by kernel_rfl)) ⟨rfl, hI⟩
/-- cenotaph/cenotaphref05.Get -/
theorem c45 (w0 w : World) (Z : Hp) (A : HP) (hI : Inv w0 Z w A) (hT : Tabs Z) (a0 : ByteArray) (r : (ApiEvent × ByteArray × Bool)) (h0 : ref05_Get a0 = some r) :
  Calls prog 45 #[.string a0] w (fun e w' => e = .returned (.tuple #[.agg (c_ApiEvent r.1).toArray, .string r.2.1, .bool r.2.2]) ∧ r.1.Sum.length = 32 ∧ Inv w0 Z w' A) := by
 have e4 := calls_intro (R := (fun e w' => e = .returned (.tuple #[.agg (c_ApiEvent r.1).toArray, .string r.2.1, .bool r.2.2]) ∧ r.1.Sum.length = 32 ∧ Inv w0 Z w' A)) (w := w) (args := [.string a0]) (fn := Go.Proofs.Tryz.f45) 101 Go.Proofs.Tryz.func45 (by rfl) Go.Proofs.Tryz.ntmps45 (by kernel_rfl)
 refine e4 ?_
 clear e4
 unfold ref05_Get at h0
 refine cQ (cR [0, 1, 2] ?_)
 refine oC (jA (d := 2) (T := 50) (c_ApiEvent (ApiEvent.mk 0 0 q8e 0 0 q8z)) (by kernel_rfl) ty50 hI (by kernel_rfl) ?_)
 intro b1 w hI
 refine oP (r := []) [1, 2] (S' := [(0, .string a0), (2, pb b1)]) ?_
 refine oD (qT (cQ (cR [0, 1, 2] ?_)))
 refine oP (r := [1, 2]) [0] (S' := [(0, .string a0), (2, pb b1), (11, .agg (c_ApiEvent (ApiEvent.mk 0 0 q8e 0 0 q8z)).toArray)]) ?_
 refine oC (jA (d := 5) (T := 50) (c_ApiEvent (ApiEvent.mk 0 0 q8e 0 0 q8z)) (by kernel_rfl) ty50 hI (by kernel_rfl) ?_)
 intro b2 w hI
 refine oC (dS (T := 50) (b := b2) (o := 0) (v := .agg (c_ApiEvent (ApiEvent.mk 0 0 q8e 0 0 q8z)).toArray) (l := c_ApiEvent (ApiEvent.mk 0 0 q8e 0 0 q8z)) (vs := c_ApiEvent (ApiEvent.mk 0 0 q8e 0 0 q8z)) (L' := c_ApiEvent (ApiEvent.mk 0 0 q8e 0 0 q8z)) (by kernel_rfl) ty50 hI (by kernel_rfl) (len_ApiEvent _ (by kernel_rfl)) (by rw [(len_ApiEvent _ (by kernel_rfl))]; kernel_rfl) (ones_app _ _ (by kernel_rfl) (ones_cA _)) (lset_all _ _ (Eq.trans (len_ApiEvent _ (by kernel_rfl)) (Eq.symm (len_ApiEvent _ (by kernel_rfl))))) ?_)
 intro w hI
 refine oD (qT (cQ (cR [0, 1, 2, 3, 4, 5, 6, 7, 8] ?_)))
 refine oP (r := [1, 2, 3, 4, 5, 6, 7, 8]) [0] (S' := [(2, pb b1), (5, pb b2), (13, .string a0)]) ?_
 obtain ⟨⟨y4, y5, y6⟩, hc3, h0⟩ := bindS h0
 try dsimp only at h0
 refine oC (jC (d := some 14) (n := 42) (vs := [.string a0]) (by kernel_rfl) en42 (c42 w0 w _ _ hI hT a0 _ hc3) ?_)
 rintro e w ⟨rfl, hI⟩
 refine ⟨_, rfl, ?_⟩
 refine oP (r := []) [2, 3, 4, 5, 6, 7, 8] (S' := [(2, pb b1), (5, pb b2), (6, iv y4), (7, .string y5), (8, .bool y6)]) ?_
 refine oD (qT (cQ ?_))
 obtain ⟨r1, h1, h0⟩ := bindS h0
 refine jM (fun a w => ∃ (x7 : Bool), x7 = r1 ∧ Fr 101 [(2, pb b1), (5, pb b2), (6, iv y4), (7, .string y5), (8, .bool y6), (23, .bool x7)] a ∧ Inv w0 Z w (star (pt b2 (.cells (c_ApiEvent (ApiEvent.mk 0 0 q8e 0 0 q8z)).toArray 50 (0, 0))) (star (pt b1 (.cells (c_ApiEvent (ApiEvent.mk 0 0 q8e 0 0 q8z)).toArray 50 (0, 0))) A))) ?_ ?_
 ·
  refine cR [0, 1, 2, 3, 4, 5] ?_
  refine oP (r := [3, 4, 5]) [0, 1, 2] (S' := [(2, pb b1), (5, pb b2), (6, iv y4), (7, .string y5), (8, .bool y6), (20, .bool (!y6))]) ?_
  by_cases hb8 : (!y6) = true
  ·
   rw [if_pos hb8] at h1
   refine OpsT.keep [2, 5, 6, 7, 8, 20] (S' := [(2, pb b1), (5, pb b2), (6, iv y4), (7, .string y5), (8, .bool y6), (20, .bool true)]) (by (try simp only [hb8]); kernel_rfl) ?_
   refine oP (r := []) [3, 4, 5] (S' := [(2, pb b1), (5, pb b2), (6, iv y4), (7, .string y5), (8, .bool y6), (23, .bool true)]) ?_
   refine oD ?_
   have e := someS h1
   subst e
   exact jT fun a ha => ⟨true, rfl, ha.keep [2, 5, 6, 7, 8, 23] (by kernel_rfl), hI⟩
  ·
   rw [if_neg hb8] at h1
   have hb8 : (!y6) = false := by simpa using hb8
   refine OpsT.keep [2, 5, 6, 7, 8, 20] (S' := [(2, pb b1), (5, pb b2), (6, iv y4), (7, .string y5), (8, .bool y6), (20, .bool false)]) (by (try simp only [hb8]); kernel_rfl) ?_
   refine oP (r := []) [3, 4, 5] (S' := [(2, pb b1), (5, pb b2), (6, iv y4), (7, .string y5), (8, .bool y6), (23, .bool (decide (y4 > 7)))]) ?_
   refine oD ?_
   have e := someS h1
   subst e
   exact jT fun a ha => ⟨decide (y4 > 7), rfl, ha.keep [2, 5, 6, 7, 8, 23] (by kernel_rfl), hI⟩
 ·
  rintro a w ⟨x7, rfl, ha, hI⟩
  try dsimp only at h0
  refine CodT.of ?_ ha
  by_cases hb9 : x7 = true
  ·
   rw [if_pos hb9] at h0
   refine cY (b := x7) hb9 ?_
   refine cQ (cR [0, 1, 2, 3] ?_)
   refine oP (r := [1, 2, 3]) [0] (S' := [(2, pb b1), (24, .agg (c_ApiEvent (ApiEvent.mk 0 0 q8e 0 0 q8z)).toArray)]) ?_
   have hI := hI.mono (pick2 _ _ _)
   refine oC (dS (T := 50) (b := b1) (o := 0) (v := .agg (c_ApiEvent (ApiEvent.mk 0 0 q8e 0 0 q8z)).toArray) (l := c_ApiEvent (ApiEvent.mk 0 0 q8e 0 0 q8z)) (vs := c_ApiEvent (ApiEvent.mk 0 0 q8e 0 0 q8z)) (L' := c_ApiEvent (ApiEvent.mk 0 0 q8e 0 0 q8z)) (by kernel_rfl) ty50 hI (by kernel_rfl) (len_ApiEvent _ (by kernel_rfl)) (by rw [(len_ApiEvent _ (by kernel_rfl))]; kernel_rfl) (ones_app _ _ (by kernel_rfl) (ones_cA _)) (lset_all _ _ (Eq.trans (len_ApiEvent _ (by kernel_rfl)) (Eq.symm (len_ApiEvent _ (by kernel_rfl))))) ?_)
   intro w hI
   refine oP (r := []) [2, 3] (S' := [(2, pb b1), (3, .string q8e), (4, .bool false)]) ?_
   refine oD (qT (jE (jR ?_)))
   have hL10 := (ldBN ty50 (l := c_ApiEvent (ApiEvent.mk 0 0 q8e 0 0 q8z)) (o := 0) (cs := c_ApiEvent (ApiEvent.mk 0 0 q8e 0 0 q8z)) (ent_refl _) (len_ApiEvent _ (by kernel_rfl)) (whole _ _ (len_ApiEvent _ (by kernel_rfl)))) w hI
   have hI := hI.drop
   have hI := hI.drop
   have e := someS h0
   subst e
   refine qK [2, 3, 4] (S' := [(2, pb b1), (3, .string q8e), (4, .bool false)]) ?_
   exact post_ret (v := .tuple #[.agg (c_ApiEvent (ApiEvent.mk 0 0 q8e 0 0 q8z)).toArray, .string q8e, .bool false]) (fun a ha => jU (vs := [.agg (c_ApiEvent (ApiEvent.mk 0 0 q8e 0 0 q8z)).toArray, .string q8e, .bool false]) (.cell (t := 2) (T := 50) (ad := ⟨b1, 0, none⟩) (by kernel_rfl) hL10 (.tmp (t := 3) (by kernel_rfl) (.tmp (t := 4) (by kernel_rfl) .nil))) ha (by kernel_rfl)) ⟨rfl, (by kernel_rfl), hI⟩
  ·
   rw [if_neg hb9] at h0
   refine cN (b := x7) (by simpa using hb9) ?_
   refine jS (qT (cQ (cR [0, 1, 2] ?_)))
   refine oP (r := [2]) [0, 1] (S' := [(2, pb b1), (5, pb b2), (7, .string y5), (8, .bool y6), (25, iv y4), (26, pb b2)]) ?_
   refine oC (dS (T := 48) (b := b2) (o := 0) (v := iv y4) (l := c_ApiEvent (ApiEvent.mk 0 0 q8e 0 0 q8z)) (vs := ([iv y4] : LV)) (L' := c_ApiEvent (ApiEvent.mk y4 0 q8e 0 0 q8z)) (by kernel_rfl) ty48 hI (by kernel_rfl) (by kernel_rfl) (by kernel_rfl) (by kernel_rfl) (by kernel_rfl) ?_)
   intro w hI
   refine oD (qT (cQ (cR [0, 1, 2, 3, 4] ?_)))
   refine oP (r := [1, 2, 3, 4]) [0] (S' := [(2, pb b1), (5, pb b2), (7, .string y5), (8, .bool y6), (27, pb b2)]) ?_
   refine oC (jY (jL (d := 28) (T := 48) (v := iv y4) (by kernel_rfl) (ldB ty48 (l := c_ApiEvent (ApiEvent.mk y4 0 q8e 0 0 q8z)) (o := 0) (v := iv y4) (ent_refl _) (by kernel_rfl))) hI ?_)
   obtain ⟨y12, hc11, h0⟩ := bindS h0
   try dsimp only at h0
   refine oC (jC (d := some 29) (n := 55) (vs := [iv y4]) (by kernel_rfl) en55 (c55 w0 w _ _ hI hT y4 _ hc11) ?_)
   rintro e w ⟨rfl, hl13, hI⟩
   refine ⟨_, rfl, ?_⟩
   refine oC (jA (d := 9) (T := 90) (cA Value.bool (List.replicate 5 (false : Bool))) (by kernel_rfl) ty90 hI (by kernel_rfl) ?_)
   intro b14 w hI
   refine oC (jV (T := 90) (b := b14) (n := 5) (xs := (List.replicate 5 (false : Bool))) (ys := y12) (by kernel_rfl) ty90 hI (fun _ => rfl) (by kernel_rfl) hl13 ?_)
   intro w hI
   refine oD (qT ?_)
   obtain ⟨r1, h1, h0⟩ := bindS h0
   refine jM (fun a w => ∃ (x15 : ByteArray) (x16 : Bool) (x17 : ApiEvent), (x15, x16, x17) = r1 ∧ Fr 101 [(2, pb b1), (5, pb b2), (7, .string x15), (8, .bool x16), (9, pb b14)] a ∧ Inv w0 Z w (star (pt b14 (.cells (cA Value.bool y12).toArray 90 (0, 0))) (star (pt b2 (.cells (c_ApiEvent x17).toArray 50 (0, 0))) (star (pt b1 (.cells (c_ApiEvent (ApiEvent.mk 0 0 q8e 0 0 q8z)).toArray 50 (0, 0))) A))) ∧ x17.Sum.length = 32) ?_ ?_
   ·
    obtain ⟨r2, h2, h1⟩ := bindS h1
    refine jM (fun a w => ∃ (x19 : Bool), x19 = r2 ∧ Fr 101 [(2, pb b1), (5, pb b2), (7, .string y5), (8, .bool y6), (9, pb b14), (34, .bool x19)] a ∧ Inv w0 Z w (star (pt b14 (.cells (cA Value.bool y12).toArray 90 (0, 0))) (star (pt b2 (.cells (c_ApiEvent (ApiEvent.mk y4 0 q8e 0 0 q8z)).toArray 50 (0, 0))) (star (pt b1 (.cells (c_ApiEvent (ApiEvent.mk 0 0 q8e 0 0 q8z)).toArray 50 (0, 0))) A)))) ?_ ?_
    ·
     refine cR [0, 1, 2, 3, 4] ?_
     refine oP (r := [1, 2, 3, 4]) [0] (S' := [(2, pb b1), (5, pb b2), (7, .string y5), (8, .bool y6), (9, pb b14), (30, pb b14)]) ?_
     refine oC (jY (jL (d := 31) (T := 4) (v := .bool (gt y12 0)) (by kernel_rfl) (ldB ty4 (l := cA Value.bool y12) (o := 0) (v := .bool (gt y12 0)) (ent_refl _) (arr_getC _ _ 0 hl13 (by kernel_rfl)))) hI ?_)
     refine oP (r := [3, 4]) [2] (S' := [(2, pb b1), (5, pb b2), (7, .string y5), (8, .bool y6), (9, pb b14), (32, .bool (gt y12 0))]) ?_
     by_cases hb20 : (gt y12 0) = true
     ·
      rw [if_pos hb20] at h2
      refine OpsT.keep [2, 5, 7, 8, 9, 32] (S' := [(2, pb b1), (5, pb b2), (7, .string y5), (8, .bool y6), (9, pb b14), (32, .bool true)]) (by (try simp only [hb20]); kernel_rfl) ?_
      refine oP (r := []) [3, 4] (S' := [(2, pb b1), (5, pb b2), (7, .string y5), (8, .bool y6), (9, pb b14), (34, .bool y6)]) ?_
      refine oD ?_
      have e := someS h2
      subst e
      exact jT fun a ha => ⟨y6, rfl, ha.keep [2, 5, 7, 8, 9, 34] (by kernel_rfl), hI⟩
     ·
      rw [if_neg hb20] at h2
      have hb20 : (gt y12 0) = false := by simpa using hb20
      refine OpsT.keep [2, 5, 7, 8, 9, 32] (S' := [(2, pb b1), (5, pb b2), (7, .string y5), (8, .bool y6), (9, pb b14), (32, .bool false)]) (by (try simp only [hb20]); kernel_rfl) ?_
      refine oP (r := []) [3, 4] (S' := [(2, pb b1), (5, pb b2), (7, .string y5), (8, .bool y6), (9, pb b14), (34, .bool false)]) ?_
      refine oD ?_
      have e := someS h2
      subst e
      exact jT fun a ha => ⟨false, rfl, ha.keep [2, 5, 7, 8, 9, 34] (by kernel_rfl), hI⟩
    ·
     rintro a w ⟨x19, rfl, ha, hI⟩
     try dsimp only at h1
     refine CodT.of ?_ ha
     by_cases hb21 : x19 = true
     ·
      rw [if_pos hb21] at h1
      refine cY (b := x19) hb21 ?_
      refine cR [0, 1, 2, 3, 4, 5, 6, 7, 8, 9] ?_
      refine oP (r := [1, 2, 3, 4, 5, 6, 7, 8, 9]) [0] (S' := [(2, pb b1), (5, pb b2), (9, pb b14), (36, .string y5)]) ?_
      obtain ⟨⟨y23, y24, y25⟩, hc22, h1⟩ := bindS h1
      try dsimp only at h1
      refine oC (jC (d := some 37) (n := 42) (vs := [.string y5]) (by kernel_rfl) en42 (c42 w0 w _ _ hI hT y5 _ hc22) ?_)
      rintro e w ⟨rfl, hI⟩
      refine ⟨_, rfl, ?_⟩
      refine oP (r := [7, 8, 9]) [2, 3, 4, 5, 6] (S' := [(2, pb b1), (5, pb b2), (9, pb b14), (38, iv y23), (39, .string y24), (40, .bool y25), (41, .pointer (some ⟨b2, 1, none⟩))]) ?_
      have hI := hI.mono (pick2 _ _ _)
      refine oC (dS (T := 3) (b := b2) (o := 1) (v := iv y23) (l := c_ApiEvent (ApiEvent.mk y4 0 q8e 0 0 q8z)) (vs := ([iv y23] : LV)) (L' := c_ApiEvent (ApiEvent.mk y4 y23 q8e 0 0 q8z)) (by kernel_rfl) ty3 hI (by kernel_rfl) (by kernel_rfl) (by kernel_rfl) (by kernel_rfl) (by kernel_rfl) ?_)
      intro w hI
      refine oP (r := []) [8, 9] (S' := [(2, pb b1), (5, pb b2), (7, .string y24), (8, .bool y25), (9, pb b14)]) ?_
      refine oD ?_
      have hI := hI.mono (pick3 _ _ _ _)
      have hI := hI.mono (pick2 _ _ _)
      have hI := hI.mono (pick3 _ _ _ _)
      have e := someS h1
      subst e
      exact jT fun a ha => ⟨y24, y25, (ApiEvent.mk y4 y23 q8e 0 0 q8z), rfl, ha.keep [2, 5, 7, 8, 9] (by kernel_rfl), hI, (by kernel_rfl)⟩
     ·
      rw [if_neg hb21] at h1
      refine cN (b := x19) (by simpa using hb21) ?_
      refine jS ?_
      have e := someS h1
      subst e
      exact jT fun a ha => ⟨y5, y6, (ApiEvent.mk y4 0 q8e 0 0 q8z), rfl, ha.keep [2, 5, 7, 8, 9] (by kernel_rfl), hI, (by kernel_rfl)⟩
   ·
    rintro a w ⟨x15, x16, x17, rfl, ha, hI, hl18⟩
    try dsimp only at h0
    refine CodT.of ?_ ha
    obtain ⟨r1, h1, h0⟩ := bindS h0
    refine jM (fun a w => ∃ (x26 : ByteArray) (x27 : Bool) (x28 : ApiEvent), (x26, x27, x28) = r1 ∧ Fr 101 [(2, pb b1), (5, pb b2), (7, .string x26), (8, .bool x27), (9, pb b14)] a ∧ Inv w0 Z w (star (pt b14 (.cells (cA Value.bool y12).toArray 90 (0, 0))) (star (pt b2 (.cells (c_ApiEvent x28).toArray 50 (0, 0))) (star (pt b1 (.cells (c_ApiEvent (ApiEvent.mk 0 0 q8e 0 0 q8z)).toArray 50 (0, 0))) A))) ∧ x28.Sum.length = 32) ?_ ?_
    ·
     obtain ⟨r2, h2, h1⟩ := bindS h1
     refine jM (fun a w => ∃ (x30 : Bool), x30 = r2 ∧ Fr 101 [(2, pb b1), (5, pb b2), (7, .string x15), (8, .bool x16), (9, pb b14), (46, .bool x30)] a ∧ Inv w0 Z w (star (pt b14 (.cells (cA Value.bool y12).toArray 90 (0, 0))) (star (pt b2 (.cells (c_ApiEvent x17).toArray 50 (0, 0))) (star (pt b1 (.cells (c_ApiEvent (ApiEvent.mk 0 0 q8e 0 0 q8z)).toArray 50 (0, 0))) A)))) ?_ ?_
     ·
      refine cR [0, 1, 2, 3, 4] ?_
      refine oP (r := [1, 2, 3, 4]) [0] (S' := [(2, pb b1), (5, pb b2), (7, .string x15), (8, .bool x16), (9, pb b14), (42, .pointer (some ⟨b14, 1, none⟩))]) ?_
      refine oC (jY (jL (d := 43) (T := 4) (v := .bool (gt y12 1)) (by kernel_rfl) (ldB ty4 (l := cA Value.bool y12) (o := 1) (v := .bool (gt y12 1)) (ent_refl _) (arr_getC _ _ 1 hl13 (by kernel_rfl)))) hI ?_)
      refine oP (r := [3, 4]) [2] (S' := [(2, pb b1), (5, pb b2), (7, .string x15), (8, .bool x16), (9, pb b14), (44, .bool (gt y12 1))]) ?_
      by_cases hb31 : (gt y12 1) = true
      ·
       rw [if_pos hb31] at h2
       refine OpsT.keep [2, 5, 7, 8, 9, 44] (S' := [(2, pb b1), (5, pb b2), (7, .string x15), (8, .bool x16), (9, pb b14), (44, .bool true)]) (by (try simp only [hb31]); kernel_rfl) ?_
       refine oP (r := []) [3, 4] (S' := [(2, pb b1), (5, pb b2), (7, .string x15), (8, .bool x16), (9, pb b14), (46, .bool x16)]) ?_
       refine oD ?_
       have e := someS h2
       subst e
       exact jT fun a ha => ⟨x16, rfl, ha.keep [2, 5, 7, 8, 9, 46] (by kernel_rfl), hI⟩
      ·
       rw [if_neg hb31] at h2
       have hb31 : (gt y12 1) = false := by simpa using hb31
       refine OpsT.keep [2, 5, 7, 8, 9, 44] (S' := [(2, pb b1), (5, pb b2), (7, .string x15), (8, .bool x16), (9, pb b14), (44, .bool false)]) (by (try simp only [hb31]); kernel_rfl) ?_
       refine oP (r := []) [3, 4] (S' := [(2, pb b1), (5, pb b2), (7, .string x15), (8, .bool x16), (9, pb b14), (46, .bool false)]) ?_
       refine oD ?_
       have e := someS h2
       subst e
       exact jT fun a ha => ⟨false, rfl, ha.keep [2, 5, 7, 8, 9, 46] (by kernel_rfl), hI⟩
     ·
      rintro a w ⟨x30, rfl, ha, hI⟩
      try dsimp only at h1
      refine CodT.of ?_ ha
      by_cases hb32 : x30 = true
      ·
       rw [if_pos hb32] at h1
       refine cY (b := x30) hb32 ?_
       refine cR [0, 1, 2, 3, 4, 5, 6, 7, 8, 9] ?_
       refine oP (r := [1, 2, 3, 4, 5, 6, 7, 8, 9]) [0] (S' := [(2, pb b1), (5, pb b2), (9, pb b14), (48, .string x15)]) ?_
       obtain ⟨⟨y34, y35, y36⟩, hc33, h1⟩ := bindS h1
       try dsimp only at h1
       refine oC (jC (d := some 49) (n := 44) (vs := [.string x15, iv 100]) (by kernel_rfl) en44 (c44 w0 w _ _ hI hT x15 100 _ hc33) ?_)
       rintro e w ⟨rfl, hI⟩
       refine ⟨_, rfl, ?_⟩
       refine oP (r := [7, 8, 9]) [2, 3, 4, 5, 6] (S' := [(2, pb b1), (5, pb b2), (9, pb b14), (50, .string y34), (51, .string y35), (52, .bool y36), (53, .pointer (some ⟨b2, 2, none⟩))]) ?_
       have hI := hI.mono (pick2 _ _ _)
       refine oC (dS (T := 9) (b := b2) (o := 2) (v := .string y34) (l := c_ApiEvent x17) (vs := ([.string y34] : LV)) (L' := c_ApiEvent (ApiEvent.mk x17.Kind x17.ID y34 x17.Time x17.Len x17.Sum)) (by kernel_rfl) ty9 hI (by kernel_rfl) (by kernel_rfl) (by kernel_rfl) (by kernel_rfl) (by kernel_rfl) ?_)
       intro w hI
       refine oP (r := []) [8, 9] (S' := [(2, pb b1), (5, pb b2), (7, .string y35), (8, .bool y36), (9, pb b14)]) ?_
       refine oD ?_
       have hI := hI.mono (pick3 _ _ _ _)
       have hI := hI.mono (pick2 _ _ _)
       have hI := hI.mono (pick3 _ _ _ _)
       have e := someS h1
       subst e
       exact jT fun a ha => ⟨y35, y36, (ApiEvent.mk x17.Kind x17.ID y34 x17.Time x17.Len x17.Sum), rfl, ha.keep [2, 5, 7, 8, 9] (by kernel_rfl), hI, hl18⟩
      ·
       rw [if_neg hb32] at h1
       refine cN (b := x30) (by simpa using hb32) ?_
       refine jS ?_
       have e := someS h1
       subst e
       exact jT fun a ha => ⟨x15, x16, x17, rfl, ha.keep [2, 5, 7, 8, 9] (by kernel_rfl), hI, hl18⟩
    ·
     rintro a w ⟨x26, x27, x28, rfl, ha, hI, hl29⟩
     try dsimp only at h0
     refine CodT.of ?_ ha
     obtain ⟨r1, h1, h0⟩ := bindS h0
     refine jM (fun a w => ∃ (x37 : ByteArray) (x38 : Bool) (x39 : ApiEvent), (x37, x38, x39) = r1 ∧ Fr 101 [(2, pb b1), (5, pb b2), (7, .string x37), (8, .bool x38), (9, pb b14)] a ∧ Inv w0 Z w (star (pt b14 (.cells (cA Value.bool y12).toArray 90 (0, 0))) (star (pt b2 (.cells (c_ApiEvent x39).toArray 50 (0, 0))) (star (pt b1 (.cells (c_ApiEvent (ApiEvent.mk 0 0 q8e 0 0 q8z)).toArray 50 (0, 0))) A))) ∧ x39.Sum.length = 32) ?_ ?_
     ·
      obtain ⟨r2, h2, h1⟩ := bindS h1
      refine jM (fun a w => ∃ (x41 : Bool), x41 = r2 ∧ Fr 101 [(2, pb b1), (5, pb b2), (7, .string x26), (8, .bool x27), (9, pb b14), (58, .bool x41)] a ∧ Inv w0 Z w (star (pt b14 (.cells (cA Value.bool y12).toArray 90 (0, 0))) (star (pt b2 (.cells (c_ApiEvent x28).toArray 50 (0, 0))) (star (pt b1 (.cells (c_ApiEvent (ApiEvent.mk 0 0 q8e 0 0 q8z)).toArray 50 (0, 0))) A)))) ?_ ?_
      ·
       refine cR [0, 1, 2, 3, 4] ?_
       refine oP (r := [1, 2, 3, 4]) [0] (S' := [(2, pb b1), (5, pb b2), (7, .string x26), (8, .bool x27), (9, pb b14), (54, .pointer (some ⟨b14, 2, none⟩))]) ?_
       refine oC (jY (jL (d := 55) (T := 4) (v := .bool (gt y12 2)) (by kernel_rfl) (ldB ty4 (l := cA Value.bool y12) (o := 2) (v := .bool (gt y12 2)) (ent_refl _) (arr_getC _ _ 2 hl13 (by kernel_rfl)))) hI ?_)
       refine oP (r := [3, 4]) [2] (S' := [(2, pb b1), (5, pb b2), (7, .string x26), (8, .bool x27), (9, pb b14), (56, .bool (gt y12 2))]) ?_
       by_cases hb42 : (gt y12 2) = true
       ·
        rw [if_pos hb42] at h2
        refine OpsT.keep [2, 5, 7, 8, 9, 56] (S' := [(2, pb b1), (5, pb b2), (7, .string x26), (8, .bool x27), (9, pb b14), (56, .bool true)]) (by (try simp only [hb42]); kernel_rfl) ?_
        refine oP (r := []) [3, 4] (S' := [(2, pb b1), (5, pb b2), (7, .string x26), (8, .bool x27), (9, pb b14), (58, .bool x27)]) ?_
        refine oD ?_
        have e := someS h2
        subst e
        exact jT fun a ha => ⟨x27, rfl, ha.keep [2, 5, 7, 8, 9, 58] (by kernel_rfl), hI⟩
       ·
        rw [if_neg hb42] at h2
        have hb42 : (gt y12 2) = false := by simpa using hb42
        refine OpsT.keep [2, 5, 7, 8, 9, 56] (S' := [(2, pb b1), (5, pb b2), (7, .string x26), (8, .bool x27), (9, pb b14), (56, .bool false)]) (by (try simp only [hb42]); kernel_rfl) ?_
        refine oP (r := []) [3, 4] (S' := [(2, pb b1), (5, pb b2), (7, .string x26), (8, .bool x27), (9, pb b14), (58, .bool false)]) ?_
        refine oD ?_
        have e := someS h2
        subst e
        exact jT fun a ha => ⟨false, rfl, ha.keep [2, 5, 7, 8, 9, 58] (by kernel_rfl), hI⟩
      ·
       rintro a w ⟨x41, rfl, ha, hI⟩
       try dsimp only at h1
       refine CodT.of ?_ ha
       by_cases hb43 : x41 = true
       ·
        rw [if_pos hb43] at h1
        refine cY (b := x41) hb43 ?_
        refine cR [0, 1, 2, 3, 4, 5, 6, 7, 8, 9] ?_
        refine oP (r := [1, 2, 3, 4, 5, 6, 7, 8, 9]) [0] (S' := [(2, pb b1), (5, pb b2), (9, pb b14), (60, .string x26)]) ?_
        obtain ⟨⟨y45, y46, y47⟩, hc44, h1⟩ := bindS h1
        try dsimp only at h1
        refine oC (jC (d := some 61) (n := 42) (vs := [.string x26]) (by kernel_rfl) en42 (c42 w0 w _ _ hI hT x26 _ hc44) ?_)
        rintro e w ⟨rfl, hI⟩
        refine ⟨_, rfl, ?_⟩
        refine oP (r := [7, 8, 9]) [2, 3, 4, 5, 6] (S' := [(2, pb b1), (5, pb b2), (9, pb b14), (62, iv y45), (63, .string y46), (64, .bool y47), (65, .pointer (some ⟨b2, 3, none⟩))]) ?_
        have hI := hI.mono (pick2 _ _ _)
        refine oC (dS (T := 3) (b := b2) (o := 3) (v := iv y45) (l := c_ApiEvent x28) (vs := ([iv y45] : LV)) (L' := c_ApiEvent (ApiEvent.mk x28.Kind x28.ID x28.Name y45 x28.Len x28.Sum)) (by kernel_rfl) ty3 hI (by kernel_rfl) (by kernel_rfl) (by kernel_rfl) (by kernel_rfl) (by kernel_rfl) ?_)
        intro w hI
        refine oP (r := []) [8, 9] (S' := [(2, pb b1), (5, pb b2), (7, .string y46), (8, .bool y47), (9, pb b14)]) ?_
        refine oD ?_
        have hI := hI.mono (pick3 _ _ _ _)
        have hI := hI.mono (pick2 _ _ _)
        have hI := hI.mono (pick3 _ _ _ _)
        have e := someS h1
        subst e
        exact jT fun a ha => ⟨y46, y47, (ApiEvent.mk x28.Kind x28.ID x28.Name y45 x28.Len x28.Sum), rfl, ha.keep [2, 5, 7, 8, 9] (by kernel_rfl), hI, hl29⟩
       ·
        rw [if_neg hb43] at h1
        refine cN (b := x41) (by simpa using hb43) ?_
        refine jS ?_
        have e := someS h1
        subst e
        exact jT fun a ha => ⟨x26, x27, x28, rfl, ha.keep [2, 5, 7, 8, 9] (by kernel_rfl), hI, hl29⟩
     ·
      rintro a w ⟨x37, x38, x39, rfl, ha, hI, hl40⟩
      try dsimp only at h0
      refine CodT.of ?_ ha
      obtain ⟨r1, h1, h0⟩ := bindS h0
      refine jM (fun a w => ∃ (x48 : ByteArray) (x49 : Bool) (x50 : ApiEvent), (x48, x49, x50) = r1 ∧ Fr 101 [(2, pb b1), (5, pb b2), (7, .string x48), (8, .bool x49), (9, pb b14)] a ∧ Inv w0 Z w (star (pt b14 (.cells (cA Value.bool y12).toArray 90 (0, 0))) (star (pt b2 (.cells (c_ApiEvent x50).toArray 50 (0, 0))) (star (pt b1 (.cells (c_ApiEvent (ApiEvent.mk 0 0 q8e 0 0 q8z)).toArray 50 (0, 0))) A))) ∧ x50.Sum.length = 32) ?_ ?_
      ·
       obtain ⟨r2, h2, h1⟩ := bindS h1
       refine jM (fun a w => ∃ (x52 : Bool), x52 = r2 ∧ Fr 101 [(2, pb b1), (5, pb b2), (7, .string x37), (8, .bool x38), (9, pb b14), (70, .bool x52)] a ∧ Inv w0 Z w (star (pt b14 (.cells (cA Value.bool y12).toArray 90 (0, 0))) (star (pt b2 (.cells (c_ApiEvent x39).toArray 50 (0, 0))) (star (pt b1 (.cells (c_ApiEvent (ApiEvent.mk 0 0 q8e 0 0 q8z)).toArray 50 (0, 0))) A)))) ?_ ?_
       ·
        refine cR [0, 1, 2, 3, 4] ?_
        refine oP (r := [1, 2, 3, 4]) [0] (S' := [(2, pb b1), (5, pb b2), (7, .string x37), (8, .bool x38), (9, pb b14), (66, .pointer (some ⟨b14, 3, none⟩))]) ?_
        refine oC (jY (jL (d := 67) (T := 4) (v := .bool (gt y12 3)) (by kernel_rfl) (ldB ty4 (l := cA Value.bool y12) (o := 3) (v := .bool (gt y12 3)) (ent_refl _) (arr_getC _ _ 3 hl13 (by kernel_rfl)))) hI ?_)
        refine oP (r := [3, 4]) [2] (S' := [(2, pb b1), (5, pb b2), (7, .string x37), (8, .bool x38), (9, pb b14), (68, .bool (gt y12 3))]) ?_
        by_cases hb53 : (gt y12 3) = true
        ·
         rw [if_pos hb53] at h2
         refine OpsT.keep [2, 5, 7, 8, 9, 68] (S' := [(2, pb b1), (5, pb b2), (7, .string x37), (8, .bool x38), (9, pb b14), (68, .bool true)]) (by (try simp only [hb53]); kernel_rfl) ?_
         refine oP (r := []) [3, 4] (S' := [(2, pb b1), (5, pb b2), (7, .string x37), (8, .bool x38), (9, pb b14), (70, .bool x38)]) ?_
         refine oD ?_
         have e := someS h2
         subst e
         exact jT fun a ha => ⟨x38, rfl, ha.keep [2, 5, 7, 8, 9, 70] (by kernel_rfl), hI⟩
        ·
         rw [if_neg hb53] at h2
         have hb53 : (gt y12 3) = false := by simpa using hb53
         refine OpsT.keep [2, 5, 7, 8, 9, 68] (S' := [(2, pb b1), (5, pb b2), (7, .string x37), (8, .bool x38), (9, pb b14), (68, .bool false)]) (by (try simp only [hb53]); kernel_rfl) ?_
         refine oP (r := []) [3, 4] (S' := [(2, pb b1), (5, pb b2), (7, .string x37), (8, .bool x38), (9, pb b14), (70, .bool false)]) ?_
         refine oD ?_
         have e := someS h2
         subst e
         exact jT fun a ha => ⟨false, rfl, ha.keep [2, 5, 7, 8, 9, 70] (by kernel_rfl), hI⟩
       ·
        rintro a w ⟨x52, rfl, ha, hI⟩
        try dsimp only at h1
        refine CodT.of ?_ ha
        by_cases hb54 : x52 = true
        ·
         rw [if_pos hb54] at h1
         refine cY (b := x52) hb54 ?_
         refine cR [0, 1, 2, 3, 4, 5, 6, 7, 8, 9] ?_
         refine oP (r := [1, 2, 3, 4, 5, 6, 7, 8, 9]) [0] (S' := [(2, pb b1), (5, pb b2), (9, pb b14), (72, .string x37)]) ?_
         obtain ⟨⟨y56, y57, y58⟩, hc55, h1⟩ := bindS h1
         try dsimp only at h1
         refine oC (jC (d := some 73) (n := 42) (vs := [.string x37]) (by kernel_rfl) en42 (c42 w0 w _ _ hI hT x37 _ hc55) ?_)
         rintro e w ⟨rfl, hI⟩
         refine ⟨_, rfl, ?_⟩
         refine oP (r := [7, 8, 9]) [2, 3, 4, 5, 6] (S' := [(2, pb b1), (5, pb b2), (9, pb b14), (74, iv y56), (75, .string y57), (76, .bool y58), (77, .pointer (some ⟨b2, 4, none⟩))]) ?_
         have hI := hI.mono (pick2 _ _ _)
         refine oC (dS (T := 3) (b := b2) (o := 4) (v := iv y56) (l := c_ApiEvent x39) (vs := ([iv y56] : LV)) (L' := c_ApiEvent (ApiEvent.mk x39.Kind x39.ID x39.Name x39.Time y56 x39.Sum)) (by kernel_rfl) ty3 hI (by kernel_rfl) (by kernel_rfl) (by kernel_rfl) (by kernel_rfl) (by kernel_rfl) ?_)
         intro w hI
         refine oP (r := []) [8, 9] (S' := [(2, pb b1), (5, pb b2), (7, .string y57), (8, .bool y58), (9, pb b14)]) ?_
         refine oD ?_
         have hI := hI.mono (pick3 _ _ _ _)
         have hI := hI.mono (pick2 _ _ _)
         have hI := hI.mono (pick3 _ _ _ _)
         have e := someS h1
         subst e
         exact jT fun a ha => ⟨y57, y58, (ApiEvent.mk x39.Kind x39.ID x39.Name x39.Time y56 x39.Sum), rfl, ha.keep [2, 5, 7, 8, 9] (by kernel_rfl), hI, hl40⟩
        ·
         rw [if_neg hb54] at h1
         refine cN (b := x52) (by simpa using hb54) ?_
         refine jS ?_
         have e := someS h1
         subst e
         exact jT fun a ha => ⟨x37, x38, x39, rfl, ha.keep [2, 5, 7, 8, 9] (by kernel_rfl), hI, hl40⟩
      ·
       rintro a w ⟨x48, x49, x50, rfl, ha, hI, hl51⟩
       try dsimp only at h0
       refine CodT.of ?_ ha
       obtain ⟨r1, h1, h0⟩ := bindS h0
       refine jM (fun a w => ∃ (x59 : ByteArray) (x60 : Bool) (x61 : ApiEvent), (x59, x60, x61) = r1 ∧ Fr 101 [(2, pb b1), (5, pb b2), (7, .string x59), (8, .bool x60)] a ∧ Inv w0 Z w (star (pt b2 (.cells (c_ApiEvent x61).toArray 50 (0, 0))) (star (pt b1 (.cells (c_ApiEvent (ApiEvent.mk 0 0 q8e 0 0 q8z)).toArray 50 (0, 0))) A)) ∧ x61.Sum.length = 32) ?_ ?_
       ·
        obtain ⟨r2, h2, h1⟩ := bindS h1
        refine jM (fun a w => ∃ (x63 : Bool), x63 = r2 ∧ Fr 101 [(2, pb b1), (5, pb b2), (7, .string x48), (8, .bool x49), (82, .bool x63)] a ∧ Inv w0 Z w (star (pt b2 (.cells (c_ApiEvent x50).toArray 50 (0, 0))) (star (pt b1 (.cells (c_ApiEvent (ApiEvent.mk 0 0 q8e 0 0 q8z)).toArray 50 (0, 0))) A))) ?_ ?_
        ·
         refine cR [0, 1, 2, 3, 4] ?_
         refine oP (r := [1, 2, 3, 4]) [0] (S' := [(2, pb b1), (5, pb b2), (7, .string x48), (8, .bool x49), (78, .pointer (some ⟨b14, 4, none⟩))]) ?_
         refine oC (jY (jL (d := 79) (T := 4) (v := .bool (gt y12 4)) (by kernel_rfl) (ldB ty4 (l := cA Value.bool y12) (o := 4) (v := .bool (gt y12 4)) (ent_refl _) (arr_getC _ _ 4 hl13 (by kernel_rfl)))) hI ?_)
         refine oP (r := [3, 4]) [2] (S' := [(2, pb b1), (5, pb b2), (7, .string x48), (8, .bool x49), (80, .bool (gt y12 4))]) ?_
         by_cases hb64 : (gt y12 4) = true
         ·
          rw [if_pos hb64] at h2
          refine OpsT.keep [2, 5, 7, 8, 80] (S' := [(2, pb b1), (5, pb b2), (7, .string x48), (8, .bool x49), (80, .bool true)]) (by (try simp only [hb64]); kernel_rfl) ?_
          refine oP (r := []) [3, 4] (S' := [(2, pb b1), (5, pb b2), (7, .string x48), (8, .bool x49), (82, .bool x49)]) ?_
          refine oD ?_
          have hI := hI.drop
          have e := someS h2
          subst e
          exact jT fun a ha => ⟨x49, rfl, ha.keep [2, 5, 7, 8, 82] (by kernel_rfl), hI⟩
         ·
          rw [if_neg hb64] at h2
          have hb64 : (gt y12 4) = false := by simpa using hb64
          refine OpsT.keep [2, 5, 7, 8, 80] (S' := [(2, pb b1), (5, pb b2), (7, .string x48), (8, .bool x49), (80, .bool false)]) (by (try simp only [hb64]); kernel_rfl) ?_
          refine oP (r := []) [3, 4] (S' := [(2, pb b1), (5, pb b2), (7, .string x48), (8, .bool x49), (82, .bool false)]) ?_
          refine oD ?_
          have hI := hI.drop
          have e := someS h2
          subst e
          exact jT fun a ha => ⟨false, rfl, ha.keep [2, 5, 7, 8, 82] (by kernel_rfl), hI⟩
        ·
         rintro a w ⟨x63, rfl, ha, hI⟩
         try dsimp only at h1
         refine CodT.of ?_ ha
         by_cases hb65 : x63 = true
         ·
          rw [if_pos hb65] at h1
          refine cY (b := x63) hb65 ?_
          refine cR [0, 1, 2, 3, 4, 5, 6, 7, 8, 9] ?_
          refine oP (r := [1, 2, 3, 4, 5, 6, 7, 8, 9]) [0] (S' := [(2, pb b1), (5, pb b2), (84, .string x48)]) ?_
          obtain ⟨⟨y67, y69, y70⟩, hc66, h1⟩ := bindS h1
          try dsimp only at h1
          refine oC (jC (d := some 85) (n := 43) (vs := [.string x48]) (by kernel_rfl) en43 (c43 w0 w _ _ hI hT x48 _ hc66) ?_)
          rintro e w ⟨rfl, hl68, hI⟩
          refine ⟨_, rfl, ?_⟩
          refine oP (r := [7, 8, 9]) [2, 3, 4, 5, 6] (S' := [(2, pb b1), (5, pb b2), (86, .agg (q8c y67).toArray), (87, .string y69), (88, .bool y70), (89, .pointer (some ⟨b2, 5, none⟩))]) ?_
          refine oC (dS (T := 23) (b := b2) (o := 5) (v := .agg (q8c y67).toArray) (l := c_ApiEvent x50) (vs := cA (Value.int .u8) y67) (L' := c_ApiEvent (ApiEvent.mk x50.Kind x50.ID x50.Name x50.Time x50.Len y67)) (by kernel_rfl) ty23 hI (by kernel_rfl) ((cA_length _ _).trans hl68) (by rw [(len_ApiEvent _ hl51)]; kernel_rfl) (ones_cA _) (tail_all _ _ _ _ _ (by kernel_rfl) (Eq.trans hl68 (Eq.symm hl51))) ?_)
          intro w hI
          refine oP (r := []) [8, 9] (S' := [(2, pb b1), (5, pb b2), (7, .string y69), (8, .bool y70)]) ?_
          refine oD ?_
          have e := someS h1
          subst e
          exact jT fun a ha => ⟨y69, y70, (ApiEvent.mk x50.Kind x50.ID x50.Name x50.Time x50.Len y67), rfl, ha.keep [2, 5, 7, 8] (by kernel_rfl), hI, hl68⟩
         ·
          rw [if_neg hb65] at h1
          refine cN (b := x63) (by simpa using hb65) ?_
          refine jS ?_
          have e := someS h1
          subst e
          exact jT fun a ha => ⟨x48, x49, x50, rfl, ha.keep [2, 5, 7, 8] (by kernel_rfl), hI, hl51⟩
       ·
        rintro a w ⟨x59, x60, x61, rfl, ha, hI, hl62⟩
        try dsimp only at h0
        refine CodT.of ?_ ha
        refine cQ (cR [0, 1, 2] ?_)
        refine oC (jY (jL (d := 90) (T := 50) (v := .agg (c_ApiEvent x61).toArray) (by kernel_rfl) (ldBN ty50 (l := c_ApiEvent x61) (o := 0) (cs := c_ApiEvent x61) (ent_refl _) (len_ApiEvent _ hl62) (whole _ _ (len_ApiEvent _ hl62)))) hI ?_)
        obtain ⟨y72, hc71, h0⟩ := bindS h0
        try dsimp only at h0
        refine oC (jC (d := some 91) (n := 54) (vs := [.agg (c_ApiEvent x61).toArray]) (by kernel_rfl) en54 (c54 w0 w _ _ hI hT x61 hl62 _ hc71) ?_)
        rintro e w ⟨rfl, hI⟩
        refine ⟨_, rfl, ?_⟩
        refine oP (r := []) [2] (S' := [(2, pb b1), (5, pb b2), (7, .string x59), (8, .bool x60), (10, .bool y72)]) ?_
        refine oD (qT (cQ ?_))
        obtain ⟨r1, h1, h0⟩ := bindS h0
        refine jM (fun a w => ∃ (x73 : Bool), x73 = r1 ∧ Fr 101 [(2, pb b1), (5, pb b2), (7, .string x59), (97, .bool x73)] a ∧ Inv w0 Z w (star (pt b2 (.cells (c_ApiEvent x61).toArray 50 (0, 0))) (star (pt b1 (.cells (c_ApiEvent (ApiEvent.mk 0 0 q8e 0 0 q8z)).toArray 50 (0, 0))) A))) ?_ ?_
        ·
         refine cR [0, 1, 2, 3, 4, 5] ?_
         refine oP (r := [3, 4, 5]) [0, 1, 2] (S' := [(2, pb b1), (5, pb b2), (7, .string x59), (10, .bool y72), (94, .bool (!x60))]) ?_
         by_cases hb74 : (!x60) = true
         ·
          rw [if_pos hb74] at h1
          refine OpsT.keep [2, 5, 7, 10, 94] (S' := [(2, pb b1), (5, pb b2), (7, .string x59), (10, .bool y72), (94, .bool true)]) (by (try simp only [hb74]); kernel_rfl) ?_
          refine oP (r := []) [3, 4, 5] (S' := [(2, pb b1), (5, pb b2), (7, .string x59), (97, .bool true)]) ?_
          refine oD ?_
          have e := someS h1
          subst e
          exact jT fun a ha => ⟨true, rfl, ha.keep [2, 5, 7, 97] (by kernel_rfl), hI⟩
         ·
          rw [if_neg hb74] at h1
          have hb74 : (!x60) = false := by simpa using hb74
          refine OpsT.keep [2, 5, 7, 10, 94] (S' := [(2, pb b1), (5, pb b2), (7, .string x59), (10, .bool y72), (94, .bool false)]) (by (try simp only [hb74]); kernel_rfl) ?_
          refine oP (r := []) [3, 4, 5] (S' := [(2, pb b1), (5, pb b2), (7, .string x59), (97, .bool (!y72))]) ?_
          refine oD ?_
          have e := someS h1
          subst e
          exact jT fun a ha => ⟨!y72, rfl, ha.keep [2, 5, 7, 97] (by kernel_rfl), hI⟩
        ·
         rintro a w ⟨x73, rfl, ha, hI⟩
         try dsimp only at h0
         refine CodT.of ?_ ha
         by_cases hb75 : x73 = true
         ·
          rw [if_pos hb75] at h0
          refine cY (b := x73) hb75 ?_
          refine cQ (cR [0, 1, 2, 3] ?_)
          refine oP (r := [1, 2, 3]) [0] (S' := [(2, pb b1), (98, .agg (c_ApiEvent (ApiEvent.mk 0 0 q8e 0 0 q8z)).toArray)]) ?_
          have hI := hI.mono (pick2 _ _ _)
          refine oC (dS (T := 50) (b := b1) (o := 0) (v := .agg (c_ApiEvent (ApiEvent.mk 0 0 q8e 0 0 q8z)).toArray) (l := c_ApiEvent (ApiEvent.mk 0 0 q8e 0 0 q8z)) (vs := c_ApiEvent (ApiEvent.mk 0 0 q8e 0 0 q8z)) (L' := c_ApiEvent (ApiEvent.mk 0 0 q8e 0 0 q8z)) (by kernel_rfl) ty50 hI (by kernel_rfl) (len_ApiEvent _ (by kernel_rfl)) (by rw [(len_ApiEvent _ (by kernel_rfl))]; kernel_rfl) (ones_app _ _ (by kernel_rfl) (ones_cA _)) (lset_all _ _ (Eq.trans (len_ApiEvent _ (by kernel_rfl)) (Eq.symm (len_ApiEvent _ (by kernel_rfl))))) ?_)
          intro w hI
          refine oP (r := []) [2, 3] (S' := [(2, pb b1), (3, .string q8e), (4, .bool false)]) ?_
          refine oD (qT (jE (jR ?_)))
          have hL76 := (ldBN ty50 (l := c_ApiEvent (ApiEvent.mk 0 0 q8e 0 0 q8z)) (o := 0) (cs := c_ApiEvent (ApiEvent.mk 0 0 q8e 0 0 q8z)) (ent_refl _) (len_ApiEvent _ (by kernel_rfl)) (whole _ _ (len_ApiEvent _ (by kernel_rfl)))) w hI
          have hI := hI.drop
          have hI := hI.drop
          have e := someS h0
          subst e
          refine qK [2, 3, 4] (S' := [(2, pb b1), (3, .string q8e), (4, .bool false)]) ?_
          exact post_ret (v := .tuple #[.agg (c_ApiEvent (ApiEvent.mk 0 0 q8e 0 0 q8z)).toArray, .string q8e, .bool false]) (fun a ha => jU (vs := [.agg (c_ApiEvent (ApiEvent.mk 0 0 q8e 0 0 q8z)).toArray, .string q8e, .bool false]) (.cell (t := 2) (T := 50) (ad := ⟨b1, 0, none⟩) (by kernel_rfl) hL76 (.tmp (t := 3) (by kernel_rfl) (.tmp (t := 4) (by kernel_rfl) .nil))) ha (by kernel_rfl)) ⟨rfl, (by kernel_rfl), hI⟩
         ·
          rw [if_neg hb75] at h0
          refine cN (b := x73) (by simpa using hb75) ?_
          refine jS (qT (cQ (cR [0, 1, 2, 3, 4] ?_)))
          refine oC (jY (jL (d := 99) (T := 50) (v := .agg (c_ApiEvent x61).toArray) (by kernel_rfl) (ldBN ty50 (l := c_ApiEvent x61) (o := 0) (cs := c_ApiEvent x61) (ent_refl _) (len_ApiEvent _ hl62) (whole _ _ (len_ApiEvent _ hl62)))) hI ?_)
          refine oP (r := [2, 3, 4]) [1] (S' := [(2, pb b1), (99, .agg (c_ApiEvent x61).toArray), (100, .string x59)]) ?_
          have hI := hI.mono (pick2 _ _ _)
          refine oC (dS (T := 50) (b := b1) (o := 0) (v := .agg (c_ApiEvent x61).toArray) (l := c_ApiEvent (ApiEvent.mk 0 0 q8e 0 0 q8z)) (vs := c_ApiEvent x61) (L' := c_ApiEvent x61) (by kernel_rfl) ty50 hI (by kernel_rfl) (len_ApiEvent _ hl62) (by rw [(len_ApiEvent _ (by kernel_rfl))]; kernel_rfl) (ones_app _ _ (by kernel_rfl) (ones_cA _)) (lset_all _ _ (Eq.trans (len_ApiEvent _ hl62) (Eq.symm (len_ApiEvent _ (by kernel_rfl))))) ?_)
          intro w hI
          refine oP (r := []) [3, 4] (S' := [(2, pb b1), (3, .string x59), (4, .bool true)]) ?_
          refine oD (qT (jE ?_))
          have hL77 := (ldBN ty50 (l := c_ApiEvent x61) (o := 0) (cs := c_ApiEvent x61) (ent_refl _) (len_ApiEvent _ hl62) (whole _ _ (len_ApiEvent _ hl62))) w hI
          have hI := hI.drop
          have hI := hI.drop
          have e := someS h0
          subst e
          refine qK [2, 3, 4] (S' := [(2, pb b1), (3, .string x59), (4, .bool true)]) ?_
          exact post_ret (v := .tuple #[.agg (c_ApiEvent x61).toArray, .string x59, .bool true]) (fun a ha => jU (vs := [.agg (c_ApiEvent x61).toArray, .string x59, .bool true]) (.cell (t := 2) (T := 50) (ad := ⟨b1, 0, none⟩) (by kernel_rfl) hL77 (.tmp (t := 3) (by kernel_rfl) (.tmp (t := 4) (by kernel_rfl) .nil))) ha (by kernel_rfl)) ⟨rfl, hl62, hI⟩
end Go.Cen
