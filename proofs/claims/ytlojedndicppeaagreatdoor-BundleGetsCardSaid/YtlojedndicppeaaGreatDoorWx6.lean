/- That the machine computes these: walks, printed by a program of ours. -/
import Derived.Test.YtlojedndicppeaaGreatDoorPx
import Derived.Test.YtlojedndicppeaaGreatDoorWx5
set_option linter.unusedVariables false
set_option linter.unusedSimpArgs false
namespace Go.Cen
set_option maxRecDepth 100000
set_option maxHeartbeats 4000000
/-- cenotaph/cenotaphref11.Get -/
theorem c17 (w0 w : World) (Z : Hp) (A : HP) (hI : Inv w0 Z w A) (hT : Tabs Z) (a0 : ByteArray) (r : (Int × (List Int) × (List ApiEvent) × Bool)) (h0 : ref11_Get a0 = some r) :
  Calls prog 17 #[.string a0] w (fun e w' => ∃ (A1 : Option Addr) (c1 : Nat) (Z' : Hp), Z.le Z' ∧ e = .returned (.tuple #[.agg ((([iv r.1] : LV) ++ (q8c r.2.1) ++ ([.slice A1 r.2.2.1.length c1] : LV))).toArray, .bool r.2.2.2]) ∧ r.2.1.length = 32 ∧ RdS Z' c_ApiEvent 37 A1 c1 r.2.2.1 ∧ Inv w0 Z' w' A) := by
 have e4 := calls_intro (R := (fun e w' => ∃ (A1 : Option Addr) (c1 : Nat) (Z' : Hp), Z.le Z' ∧ e = .returned (.tuple #[.agg ((([iv r.1] : LV) ++ (q8c r.2.1) ++ ([.slice A1 r.2.2.1.length c1] : LV))).toArray, .bool r.2.2.2]) ∧ r.2.1.length = 32 ∧ RdS Z' c_ApiEvent 37 A1 c1 r.2.2.1 ∧ Inv w0 Z' w' A)) (w := w) (args := [.string a0]) (fn := Go.Proofs.Tryz.f17) 113 Go.Proofs.Tryz.func17 (by rfl) Go.Proofs.Tryz.ntmps17 (by kernel_rfl)
 refine e4 ?_
 clear e4
 unfold ref11_Get at h0
 refine cQ (cR [0, 1] ?_)
 refine oC (jA (d := 2) (T := 32) q8b (by kernel_rfl) ty32 hI (by kernel_rfl) ?_)
 intro b1 w hI
 refine oP (r := []) [1] (S' := [(0, .string a0), (2, pb b1)]) ?_
 refine oD (qT (cQ (cR [0, 1, 2] ?_)))
 refine oP (r := [1, 2]) [0] (S' := [(0, .string a0), (2, pb b1), (19, .agg q8b.toArray)]) ?_
 refine oC (jA (d := 4) (T := 32) q8b (by kernel_rfl) ty32 hI (by kernel_rfl) ?_)
 intro b2 w hI
 refine oC (dS (T := 32) (b := b2) (o := 0) (v := .agg q8b.toArray) (l := q8b) (vs := q8b) (L' := q8b) (by kernel_rfl) ty32 hI (by kernel_rfl) (by simp [cA_length]) (by rw [show List.length _ = 34 from (by simp [cA_length])]; kernel_rfl) (ones_app _ _ (ones_app _ _ (by kernel_rfl) (ones_cA _)) (by kernel_rfl)) (lset_all _ _ (Eq.trans (show List.length _ = 34 from (by simp [cA_length])) (Eq.symm (show List.length _ = 34 from (by simp [cA_length]))))) ?_)
 intro w hI
 refine oD (qT (cQ ?_))
 obtain ⟨r1, h1, h0⟩ := bindS h0
 refine jM (fun a w => ∃ (x3 : Bool), x3 = r1 ∧ Fr 113 [(0, .string a0), (2, pb b1), (4, pb b2), (27, .bool x3)] a ∧ Inv w0 Z w (star (pt b2 (.cells q8b.toArray 32 (0, 0))) (star (pt b1 (.cells q8b.toArray 32 (0, 0))) A))) ?_ ?_
 ·
  refine cR [0, 1, 2, 3, 4, 5, 6, 7] ?_
  refine oP (r := [4, 5, 6, 7]) [0, 1, 2, 3] (S' := [(0, .string a0), (2, pb b1), (4, pb b2), (23, .bool (decide ((a0.size : Int) < 4)))]) ?_
  by_cases hb4 : (decide ((a0.size : Int) < 4)) = true
  ·
   rw [if_pos hb4] at h1
   refine OpsT.keep [0, 2, 4, 23] (S' := [(0, .string a0), (2, pb b1), (4, pb b2), (23, .bool true)]) (by (try simp only [hb4]); kernel_rfl) ?_
   refine oP (r := []) [4, 5, 6, 7] (S' := [(0, .string a0), (2, pb b1), (4, pb b2), (27, .bool true)]) ?_
   refine oD ?_
   have e := someS h1
   subst e
   exact jT fun a ha => ⟨true, rfl, ha.keep [0, 2, 4, 27] (by kernel_rfl), hI⟩
  ·
   rw [if_neg hb4] at h1
   have hb4 : (decide ((a0.size : Int) < 4)) = false := by simpa using hb4
   refine OpsT.keep [0, 2, 4, 23] (S' := [(0, .string a0), (2, pb b1), (4, pb b2), (23, .bool false)]) (by (try simp only [hb4]); kernel_rfl) ?_
   refine oP (r := [5, 6, 7]) [4] (S' := [(0, .string a0), (2, pb b1), (4, pb b2), (23, .bool false), (24, .string a0)]) ?_
   obtain ⟨hg5, h1⟩ := guardS h1
   refine oC (jY (Yl.sliceStr01 (d := 25) (T := 9) (s := a0) (hi := 4) (by kernel_rfl) Go.Proofs.Tryz.underlying9 hg5) hI ?_)
   refine oP (r := []) [6, 7] (S' := [(0, .string a0), (2, pb b1), (4, pb b2), (27, .bool (!(seq (sx a0 0 4) (⟨#[67, 69, 78, 79]⟩ : ByteArray))))]) ?_
   refine oD ?_
   have e := someS h1
   subst e
   exact jT fun a ha => ⟨!(seq (sx a0 0 4) (⟨#[67, 69, 78, 79]⟩ : ByteArray)), rfl, ha.keep [0, 2, 4, 27] (by kernel_rfl), hI⟩
 ·
  rintro a w ⟨x3, rfl, ha, hI⟩
  try dsimp only at h0
  refine CodT.of ?_ ha
  by_cases hb6 : x3 = true
  ·
   rw [if_pos hb6] at h0
   refine cY (b := x3) hb6 ?_
   refine cQ (cR [0, 1, 2] ?_)
   refine oC (jY (jL (d := 28) (T := 32) (v := .agg q8b.toArray) (by kernel_rfl) (ldBN ty32 (l := q8b) (o := 0) (cs := q8b) (ent_refl _) (by simp [cA_length]) (whole _ _ (by simp [cA_length])))) hI ?_)
   have hI := hI.mono (pick2 _ _ _)
   refine oC (dS (T := 32) (b := b1) (o := 0) (v := .agg q8b.toArray) (l := q8b) (vs := q8b) (L' := q8b) (by kernel_rfl) ty32 hI (by kernel_rfl) (by simp [cA_length]) (by rw [show List.length _ = 34 from (by simp [cA_length])]; kernel_rfl) (ones_app _ _ (ones_app _ _ (by kernel_rfl) (ones_cA _)) (by kernel_rfl)) (lset_all _ _ (Eq.trans (show List.length _ = 34 from (by simp [cA_length])) (Eq.symm (show List.length _ = 34 from (by simp [cA_length]))))) ?_)
   intro w hI
   refine oP (r := []) [2] (S' := [(2, pb b1), (3, .bool false)]) ?_
   refine oD (qT (jE (jR ?_)))
   have hL7 := (ldBN ty32 (l := q8b) (o := 0) (cs := q8b) (ent_refl _) (by simp [cA_length]) (whole _ _ (by simp [cA_length]))) w hI
   have hI := hI.drop
   have hI := hI.drop
   have e := someS h0
   subst e
   refine qK [2, 3] (S' := [(2, pb b1), (3, .bool false)]) ?_
   exact post_ret (v := .tuple #[.agg q8b.toArray, .bool false]) (fun a ha => jU (vs := [.agg q8b.toArray, .bool false]) (.cell (t := 2) (T := 32) (ad := ⟨b1, 0, none⟩) (by kernel_rfl) hL7 (.tmp (t := 3) (by kernel_rfl) .nil)) ha (by kernel_rfl)) ⟨none, 0, Z, Hp.le_refl _, rfl, (by kernel_rfl), (RdS.nil _ _ _ _ _ (Nat.zero_le _)), hI⟩
  ·
   rw [if_neg hb6] at h0
   refine cN (b := x3) (by simpa using hb6) ?_
   refine jS (qT (cQ (cR [0, 1, 2, 3, 4, 5, 6, 7, 8, 9] ?_)))
   refine oP (r := [1, 2, 3, 4, 5, 6, 7, 8, 9]) [0] (S' := [(0, .string a0), (2, pb b1), (4, pb b2), (30, .string a0)]) ?_
   obtain ⟨hg8, h0⟩ := guardS h0
   refine oC (jY (Yl.sliceStr10 (d := 31) (T := 9) (s := a0) (lo := 4) (by kernel_rfl) Go.Proofs.Tryz.underlying9 hg8) hI ?_)
   obtain ⟨⟨y10, y11, y12⟩, hc9, h0⟩ := bindS h0
   try dsimp only at h0
   refine oC (jC (d := some 32) (n := 42) (vs := [.string (sx a0 4 (a0.size : Int))]) (by kernel_rfl) en42 (c42 w0 w _ _ hI hT (sx a0 4 (a0.size : Int)) _ hc9) ?_)
   rintro e w ⟨rfl, hI⟩
   refine ⟨_, rfl, ?_⟩
   refine oP (r := []) [3, 4, 5, 6, 7, 8, 9] (S' := [(0, .string a0), (2, pb b1), (4, pb b2), (5, iv y10), (6, .string y11), (7, .bool y12)]) ?_
   refine oD (qT (cQ (cQ (cR [0, 1] ?_))))
   refine oP (r := []) [0, 1] (S' := [(0, .string a0), (2, pb b1), (4, pb b2), (5, iv y10), (6, .string y11), (37, .bool (!y12))]) ?_
   refine oD (qT ?_)
   by_cases hb13 : (!y12) = true
   ·
    rw [if_pos hb13] at h0
    refine cY (b := !y12) hb13 ?_
    refine cQ (cR [0, 1, 2] ?_)
    refine oC (jY (jL (d := 38) (T := 32) (v := .agg q8b.toArray) (by kernel_rfl) (ldBN ty32 (l := q8b) (o := 0) (cs := q8b) (ent_refl _) (by simp [cA_length]) (whole _ _ (by simp [cA_length])))) hI ?_)
    have hI := hI.mono (pick2 _ _ _)
    refine oC (dS (T := 32) (b := b1) (o := 0) (v := .agg q8b.toArray) (l := q8b) (vs := q8b) (L' := q8b) (by kernel_rfl) ty32 hI (by kernel_rfl) (by simp [cA_length]) (by rw [show List.length _ = 34 from (by simp [cA_length])]; kernel_rfl) (ones_app _ _ (ones_app _ _ (by kernel_rfl) (ones_cA _)) (by kernel_rfl)) (lset_all _ _ (Eq.trans (show List.length _ = 34 from (by simp [cA_length])) (Eq.symm (show List.length _ = 34 from (by simp [cA_length]))))) ?_)
    intro w hI
    refine oP (r := []) [2] (S' := [(2, pb b1), (3, .bool false)]) ?_
    refine oD (qT (jE (jR ?_)))
    have hL14 := (ldBN ty32 (l := q8b) (o := 0) (cs := q8b) (ent_refl _) (by simp [cA_length]) (whole _ _ (by simp [cA_length]))) w hI
    have hI := hI.drop
    have hI := hI.drop
    have e := someS h0
    subst e
    refine qK [2, 3] (S' := [(2, pb b1), (3, .bool false)]) ?_
    exact post_ret (v := .tuple #[.agg q8b.toArray, .bool false]) (fun a ha => jU (vs := [.agg q8b.toArray, .bool false]) (.cell (t := 2) (T := 32) (ad := ⟨b1, 0, none⟩) (by kernel_rfl) hL14 (.tmp (t := 3) (by kernel_rfl) .nil)) ha (by kernel_rfl)) ⟨none, 0, Z, Hp.le_refl _, rfl, (by kernel_rfl), (RdS.nil _ _ _ _ _ (Nat.zero_le _)), hI⟩
   ·
    rw [if_neg hb13] at h0
    refine cN (b := !y12) (by simpa using hb13) ?_
    refine jS (qT (cQ (cR [0, 1, 2, 3, 4, 5, 6, 7, 8, 9] ?_)))
    refine oP (r := [1, 2, 3, 4, 5, 6, 7, 8, 9]) [0] (S' := [(0, .string a0), (2, pb b1), (4, pb b2), (5, iv y10), (40, .string y11)]) ?_
    obtain ⟨⟨y16, y18, y19⟩, hc15, h0⟩ := bindS h0
    try dsimp only at h0
    refine oC (jC (d := some 41) (n := 43) (vs := [.string y11]) (by kernel_rfl) en43 (c43 w0 w _ _ hI hT y11 _ hc15) ?_)
    rintro e w ⟨rfl, hl17, hI⟩
    refine ⟨_, rfl, ?_⟩
    refine oP (r := [6, 7, 8, 9]) [2, 3, 4, 5] (S' := [(0, .string a0), (2, pb b1), (4, pb b2), (5, iv y10), (42, .agg (q8c y16).toArray), (43, .string y18), (44, .bool y19)]) ?_
    refine oC (jA (d := 8) (T := 23) (q8c q8z) (by kernel_rfl) ty23 hI (by kernel_rfl) ?_)
    intro b20 w hI
    refine oC (jV (T := 23) (b := b20) (n := 32) (xs := q8z) (ys := y16) (by kernel_rfl) ty23 hI (fun _ => rfl) (by kernel_rfl) hl17 ?_)
    intro w hI
    refine oP (r := []) [8, 9] (S' := [(0, .string a0), (2, pb b1), (4, pb b2), (5, iv y10), (6, .string y18), (7, .bool y19), (8, pb b20)]) ?_
    refine oD (qT (cQ (cQ (cR [0, 1] ?_))))
    refine oP (r := []) [0, 1] (S' := [(0, .string a0), (2, pb b1), (4, pb b2), (5, iv y10), (6, .string y18), (8, pb b20), (46, .bool (!y19))]) ?_
    refine oD (qT ?_)
    by_cases hb21 : (!y19) = true
    ·
     rw [if_pos hb21] at h0
     refine cY (b := !y19) hb21 ?_
     refine cQ (cR [0, 1, 2] ?_)
     refine oC (jY (jL (d := 47) (T := 32) (v := .agg q8b.toArray) (by kernel_rfl) (ldBN ty32 (l := q8b) (o := 0) (cs := q8b) (pick2 _ _ _) (by simp [cA_length]) (whole _ _ (by simp [cA_length])))) hI ?_)
     have hI := hI.mono (pick3 _ _ _ _)
     refine oC (dS (T := 32) (b := b1) (o := 0) (v := .agg q8b.toArray) (l := q8b) (vs := q8b) (L' := q8b) (by kernel_rfl) ty32 hI (by kernel_rfl) (by simp [cA_length]) (by rw [show List.length _ = 34 from (by simp [cA_length])]; kernel_rfl) (ones_app _ _ (ones_app _ _ (by kernel_rfl) (ones_cA _)) (by kernel_rfl)) (lset_all _ _ (Eq.trans (show List.length _ = 34 from (by simp [cA_length])) (Eq.symm (show List.length _ = 34 from (by simp [cA_length]))))) ?_)
     intro w hI
     refine oP (r := []) [2] (S' := [(2, pb b1), (3, .bool false)]) ?_
     refine oD (qT (jE (jR ?_)))
     have hL22 := (ldBN ty32 (l := q8b) (o := 0) (cs := q8b) (ent_refl _) (by simp [cA_length]) (whole _ _ (by simp [cA_length]))) w hI
     have hI := hI.drop
     have hI := hI.drop
     have hI := hI.drop
     have e := someS h0
     subst e
     refine qK [2, 3] (S' := [(2, pb b1), (3, .bool false)]) ?_
     exact post_ret (v := .tuple #[.agg q8b.toArray, .bool false]) (fun a ha => jU (vs := [.agg q8b.toArray, .bool false]) (.cell (t := 2) (T := 32) (ad := ⟨b1, 0, none⟩) (by kernel_rfl) hL22 (.tmp (t := 3) (by kernel_rfl) .nil)) ha (by kernel_rfl)) ⟨none, 0, Z, Hp.le_refl _, rfl, (by kernel_rfl), (RdS.nil _ _ _ _ _ (Nat.zero_le _)), hI⟩
    ·
     rw [if_neg hb21] at h0
     refine cN (b := !y19) (by simpa using hb21) ?_
     refine jS (qT (cQ (cR [0, 1, 2, 3, 4, 5, 6, 7, 8] ?_)))
     refine oP (r := [1, 2, 3, 4, 5, 6, 7, 8]) [0] (S' := [(0, .string a0), (2, pb b1), (4, pb b2), (5, iv y10), (8, pb b20), (49, .string y18)]) ?_
     obtain ⟨⟨y24, y25, y26⟩, hc23, h0⟩ := bindS h0
     try dsimp only at h0
     refine oC (jC (d := some 50) (n := 42) (vs := [.string y18]) (by kernel_rfl) en42 (c42 w0 w _ _ hI hT y18 _ hc23) ?_)
     rintro e w ⟨rfl, hI⟩
     refine ⟨_, rfl, ?_⟩
     refine oP (r := []) [2, 3, 4, 5, 6, 7, 8] (S' := [(0, .string a0), (2, pb b1), (4, pb b2), (5, iv y10), (6, .string y25), (7, .bool y26), (8, pb b20), (9, iv y24)]) ?_
     refine oD (qT (cQ ?_))
     obtain ⟨r1, h1, h0⟩ := bindS h0
     refine jM (fun a w => ∃ (x27 : Bool), x27 = r1 ∧ Fr 113 [(0, .string a0), (2, pb b1), (4, pb b2), (5, iv y10), (6, .string y25), (8, pb b20), (9, iv y24), (59, .bool x27)] a ∧ Inv w0 Z w (star (pt b20 (.cells (q8c y16).toArray 23 (0, 0))) (star (pt b2 (.cells q8b.toArray 32 (0, 0))) (star (pt b1 (.cells q8b.toArray 32 (0, 0))) A)))) ?_ ?_
     ·
      refine cR [0, 1, 2, 3, 4, 5] ?_
      refine oP (r := [3, 4, 5]) [0, 1, 2] (S' := [(0, .string a0), (2, pb b1), (4, pb b2), (5, iv y10), (6, .string y25), (8, pb b20), (9, iv y24), (56, .bool (!y26))]) ?_
      by_cases hb28 : (!y26) = true
      ·
       rw [if_pos hb28] at h1
       refine OpsT.keep [0, 2, 4, 5, 6, 8, 9, 56] (S' := [(0, .string a0), (2, pb b1), (4, pb b2), (5, iv y10), (6, .string y25), (8, pb b20), (9, iv y24), (56, .bool true)]) (by (try simp only [hb28]); kernel_rfl) ?_
       refine oP (r := []) [3, 4, 5] (S' := [(0, .string a0), (2, pb b1), (4, pb b2), (5, iv y10), (6, .string y25), (8, pb b20), (9, iv y24), (59, .bool true)]) ?_
       refine oD ?_
       have e := someS h1
       subst e
       exact jT fun a ha => ⟨true, rfl, ha.keep [0, 2, 4, 5, 6, 8, 9, 59] (by kernel_rfl), hI⟩
      ·
       rw [if_neg hb28] at h1
       have hb28 : (!y26) = false := by simpa using hb28
       refine OpsT.keep [0, 2, 4, 5, 6, 8, 9, 56] (S' := [(0, .string a0), (2, pb b1), (4, pb b2), (5, iv y10), (6, .string y25), (8, pb b20), (9, iv y24), (56, .bool false)]) (by (try simp only [hb28]); kernel_rfl) ?_
       refine oP (r := []) [3, 4, 5] (S' := [(0, .string a0), (2, pb b1), (4, pb b2), (5, iv y10), (6, .string y25), (8, pb b20), (9, iv y24), (59, .bool (decide (y24 > 400)))]) ?_
       refine oD ?_
       have e := someS h1
       subst e
       exact jT fun a ha => ⟨decide (y24 > 400), rfl, ha.keep [0, 2, 4, 5, 6, 8, 9, 59] (by kernel_rfl), hI⟩
     ·
      rintro a w ⟨x27, rfl, ha, hI⟩
      try dsimp only at h0
      refine CodT.of ?_ ha
      by_cases hb29 : x27 = true
      ·
       rw [if_pos hb29] at h0
       refine cY (b := x27) hb29 ?_
       refine cQ (cR [0, 1, 2] ?_)
       refine oC (jY (jL (d := 60) (T := 32) (v := .agg q8b.toArray) (by kernel_rfl) (ldBN ty32 (l := q8b) (o := 0) (cs := q8b) (pick2 _ _ _) (by simp [cA_length]) (whole _ _ (by simp [cA_length])))) hI ?_)
       have hI := hI.mono (pick3 _ _ _ _)
       refine oC (dS (T := 32) (b := b1) (o := 0) (v := .agg q8b.toArray) (l := q8b) (vs := q8b) (L' := q8b) (by kernel_rfl) ty32 hI (by kernel_rfl) (by simp [cA_length]) (by rw [show List.length _ = 34 from (by simp [cA_length])]; kernel_rfl) (ones_app _ _ (ones_app _ _ (by kernel_rfl) (ones_cA _)) (by kernel_rfl)) (lset_all _ _ (Eq.trans (show List.length _ = 34 from (by simp [cA_length])) (Eq.symm (show List.length _ = 34 from (by simp [cA_length]))))) ?_)
       intro w hI
       refine oP (r := []) [2] (S' := [(2, pb b1), (3, .bool false)]) ?_
       refine oD (qT (jE (jR ?_)))
       have hL30 := (ldBN ty32 (l := q8b) (o := 0) (cs := q8b) (ent_refl _) (by simp [cA_length]) (whole _ _ (by simp [cA_length]))) w hI
       have hI := hI.drop
       have hI := hI.drop
       have hI := hI.drop
       have e := someS h0
       subst e
       refine qK [2, 3] (S' := [(2, pb b1), (3, .bool false)]) ?_
       exact post_ret (v := .tuple #[.agg q8b.toArray, .bool false]) (fun a ha => jU (vs := [.agg q8b.toArray, .bool false]) (.cell (t := 2) (T := 32) (ad := ⟨b1, 0, none⟩) (by kernel_rfl) hL30 (.tmp (t := 3) (by kernel_rfl) .nil)) ha (by kernel_rfl)) ⟨none, 0, Z, Hp.le_refl _, rfl, (by kernel_rfl), (RdS.nil _ _ _ _ _ (Nat.zero_le _)), hI⟩
      ·
       rw [if_neg hb29] at h0
       refine cN (b := x27) (by simpa using hb29) ?_
       refine jS (qT (cQ (cR [0, 1, 2] ?_)))
       refine oP (r := [2]) [0, 1] (S' := [(0, .string a0), (2, pb b1), (4, pb b2), (6, .string y25), (8, pb b20), (9, iv y24), (61, iv y10), (62, pb b2)]) ?_
       have hI := hI.mono (pick2 _ _ _)
       refine oC (dS (T := 3) (b := b2) (o := 0) (v := iv y10) (l := q8b) (vs := ([iv y10] : LV)) (L' := (([iv y10] : LV) ++ (q8c q8z) ++ ([.slice none 0 0] : LV))) (by kernel_rfl) ty3 hI (by kernel_rfl) (by kernel_rfl) (by rw [show List.length _ = 34 from by simp [cA_length]]; kernel_rfl) (by kernel_rfl) (seg_set [([iv 0] : LV), cA (Value.int .u8) q8z, ([.slice none 0 0] : LV)] 0 (by simp [cA_length]) (by simp [cA_length]) (by simp [cA_length]) (by simp [cA_length])) ?_)
       intro w hI
       refine oD (qT (cQ (cR [0, 1, 2] ?_)))
       refine oC (jY (jL (d := 63) (T := 23) (v := .agg (q8c y16).toArray) (by kernel_rfl) (ldBN ty23 (l := cA (Value.int .u8) y16) (o := 0) (cs := cA (Value.int .u8) y16) (pick2 _ _ _) ((cA_length _ _).trans hl17) (whole _ _ ((cA_length _ _).trans hl17)))) hI ?_)
       refine oP (r := [2]) [1] (S' := [(0, .string a0), (2, pb b1), (4, pb b2), (6, .string y25), (9, iv y24), (63, .agg (q8c y16).toArray), (64, .pointer (some ⟨b2, 1, none⟩))]) ?_
       refine oC (dS (T := 23) (b := b2) (o := 1) (v := .agg (q8c y16).toArray) (l := (([iv y10] : LV) ++ (q8c q8z) ++ ([.slice none 0 0] : LV))) (vs := cA (Value.int .u8) y16) (L' := (([iv y10] : LV) ++ (q8c y16) ++ ([.slice none 0 0] : LV))) (by kernel_rfl) ty23 hI (by kernel_rfl) ((cA_length _ _).trans hl17) (by rw [show List.length _ = 34 from by simp [cA_length]]; kernel_rfl) (ones_cA _) (seg_set [([iv y10] : LV), cA (Value.int .u8) q8z, ([.slice none 0 0] : LV)] 1 (by simp [cA_length]) (by simp [cA_length, hl17]) (by simp [cA_length]) (by simp [cA_length, hl17])) ?_)
       intro w hI
       refine oD (qT (cQ (cQ (cR [0] ?_))))
       refine oP (r := []) [0] (S' := [(0, .string a0), (2, pb b1), (4, pb b2), (6, .string y25), (9, iv y24), (10, iv 0)]) ?_
       refine oD (qT ?_)
       obtain ⟨r1, h1, h0⟩ := bindS h0
       refine CodT.meet1 (fun a w => ∃ (x31 : Int) (x32 : (List Int)) (x34 : (List ApiEvent)) (A35 : Option Addr) (cp36 : Nat), .inr (x31, x32, x34) = r1 ∧ Fr 113 [(0, .string a0), (2, pb b1), (4, pb b2)] a ∧ Inv w0 Z w (star (ownS 50 c_ApiEvent 37 A35 cp36 x34) (star (pt b2 (.cells ((([iv x31] : LV) ++ (q8c x32) ++ ([.slice A35 x34.length cp36] : LV))).toArray 32 (0, 0))) (star (pt b1 (.cells q8b.toArray 32 (0, 0))) A))) ∧ x32.length = 32) ?_ ?_
       ·
        refine jB ?_
        have hI := ownS_nil (α := ApiEvent) hI 50 c_ApiEvent 37
        have hI := hI.mono (pick3 _ _ _ _)
        have hI := hI.drop
        refine (fun a ha => wp_loopN (fun k a w => ∃ (x37 : ByteArray) (x38 : Int) (x39 : Int) (x40 : (List Int)) (x42 : (List ApiEvent)) (A43 : Option Addr) (cp44 : Nat), ref11_Get.l0 y24 k x37 x38 x39 x40 x42 = some r1 ∧ Fr 113 [(0, .string a0), (2, pb b1), (4, pb b2), (6, .string x37), (9, iv y24), (10, iv x38)] a ∧ Inv w0 Z w (star (ownS 50 c_ApiEvent 37 A43 cp44 x42) (star (pt b2 (.cells ((([iv x39] : LV) ++ (q8c x40) ++ ([.slice A43 x42.length cp44] : LV))).toArray 32 (0, 0))) (star (pt b1 (.cells q8b.toArray 32 (0, 0))) A))) ∧ x40.length = 32) ?_ FU a w ⟨y25, 0, y10, y16, ([] : List ApiEvent), none, 0, h1, ha.keep [0, 2, 4, 6, 9, 10] (by kernel_rfl), hI, hl17⟩)
        clear h1 hI
        rintro k a w ⟨x37, x38, x39, x40, x42, A43, cp44, h1, ha, hI, hl41⟩
        rcases k with _ | k
        ·
         cases h1
        simp only [ref11_Get.l0] at h1
        refine CodT.of ?_ ha
        refine cQ (cQ (cR [0, 1, 2] ?_))
        refine oP (r := []) [0, 1, 2] (S' := [(0, .string a0), (2, pb b1), (4, pb b2), (6, .string x37), (9, iv y24), (10, iv x38), (67, .bool (decide (x38 < y24)))]) ?_
        refine oD (qT ?_)
        by_cases hb45 : (decide (x38 < y24)) = true
        ·
         rw [if_pos hb45] at h1
         refine cY (b := decide (x38 < y24)) hb45 ?_
         refine jS (qT (cQ (jB (cQ (cR [0, 1, 2, 3, 4, 5, 6, 7, 8] ?_)))))
         refine oP (r := [1, 2, 3, 4, 5, 6, 7, 8]) [0] (S' := [(0, .string a0), (2, pb b1), (4, pb b2), (9, iv y24), (10, iv x38), (71, .string x37)]) ?_
         obtain ⟨⟨y47, y48, y49⟩, hc46, h1⟩ := bindS h1
         try dsimp only at h1
         refine oC (jC (d := some 72) (n := 44) (vs := [.string x37, iv 400]) (by kernel_rfl) en44 (c44 w0 w _ _ hI hT x37 400 _ hc46) ?_)
         rintro e w ⟨rfl, hI⟩
         refine ⟨_, rfl, ?_⟩
         refine oP (r := []) [2, 3, 4, 5, 6, 7, 8] (S' := [(0, .string a0), (2, pb b1), (4, pb b2), (9, iv y24), (10, iv x38), (11, .string y47), (12, .string y48), (13, .bool y49)]) ?_
         refine oD (qT (cQ (cQ (cR [0, 1] ?_))))
         refine oP (r := []) [0, 1] (S' := [(0, .string a0), (2, pb b1), (4, pb b2), (9, iv y24), (10, iv x38), (11, .string y47), (12, .string y48), (77, .bool (!y49))]) ?_
         refine oD (qT ?_)
         by_cases hb50 : (!y49) = true
         ·
          rw [if_pos hb50] at h1
          refine cY (b := !y49) hb50 ?_
          refine cQ (cR [0, 1, 2] ?_)
          refine oP (r := [1, 2]) [0] (S' := [(2, pb b1), (78, .agg q8b.toArray)]) ?_
          have hI := hI.mono (pick3 _ _ _ _)
          refine oC (dS (T := 32) (b := b1) (o := 0) (v := .agg q8b.toArray) (l := q8b) (vs := q8b) (L' := q8b) (by kernel_rfl) ty32 hI (by kernel_rfl) (by simp [cA_length]) (by rw [show List.length _ = 34 from (by simp [cA_length])]; kernel_rfl) (ones_app _ _ (ones_app _ _ (by kernel_rfl) (ones_cA _)) (by kernel_rfl)) (lset_all _ _ (Eq.trans (show List.length _ = 34 from (by simp [cA_length])) (Eq.symm (show List.length _ = 34 from (by simp [cA_length]))))) ?_)
          intro w hI
          refine oP (r := []) [2] (S' := [(2, pb b1), (3, .bool false)]) ?_
          refine oD (qT (jE (jR (jQ (jR (jR (jQ (jR (jR ?_)))))))))
          have hL51 := (ldBN ty32 (l := q8b) (o := 0) (cs := q8b) (ent_refl _) (by simp [cA_length]) (whole _ _ (by simp [cA_length]))) w hI
          have hI := hI.drop
          have hI := hI.drop
          have hI := hI.drop
          have e := someS h1
          subst e
          try dsimp only at h0
          have e := someS h0
          subst e
          refine qK [2, 3] (S' := [(2, pb b1), (3, .bool false)]) ?_
          exact post_ret (v := .tuple #[.agg q8b.toArray, .bool false]) (fun a ha => jU (vs := [.agg q8b.toArray, .bool false]) (.cell (t := 2) (T := 32) (ad := ⟨b1, 0, none⟩) (by kernel_rfl) hL51 (.tmp (t := 3) (by kernel_rfl) .nil)) ha (by kernel_rfl)) ⟨none, 0, Z, Hp.le_refl _, rfl, (by kernel_rfl), (RdS.nil _ _ _ _ _ (Nat.zero_le _)), hI⟩
         ·
          rw [if_neg hb50] at h1
          refine cN (b := !y49) (by simpa using hb50) ?_
          refine jS (qT (cQ (cR [0, 1, 2, 3, 4, 5, 6, 7, 8, 9] ?_)))
          refine oP (r := [1, 2, 3, 4, 5, 6, 7, 8, 9]) [0] (S' := [(0, .string a0), (2, pb b1), (4, pb b2), (9, iv y24), (10, iv x38), (12, .string y48), (80, .string y47)]) ?_
          obtain ⟨⟨y53, y55, y56⟩, hc52, h1⟩ := bindS h1
          try dsimp only at h1
          refine oC (jC (d := some 81) (n := 45) (vs := [.string y47]) (by kernel_rfl) en45 (c45 w0 w _ _ hI hT y47 _ hc52) ?_)
          rintro e w ⟨rfl, hl54, hI⟩
          refine ⟨_, rfl, ?_⟩
          refine oP (r := [6, 7, 8, 9]) [2, 3, 4, 5] (S' := [(0, .string a0), (2, pb b1), (4, pb b2), (9, iv y24), (10, iv x38), (12, .string y48), (82, .agg (c_ApiEvent y53).toArray), (83, .string y55), (84, .bool y56)]) ?_
          refine oC (jA (d := 14) (T := 50) (c_ApiEvent (ApiEvent.mk 0 0 q8e 0 0 q8z)) (by kernel_rfl) ty50 hI (by kernel_rfl) ?_)
          intro b57 w hI
          refine oC (dS (T := 50) (b := b57) (o := 0) (v := .agg (c_ApiEvent y53).toArray) (l := c_ApiEvent (ApiEvent.mk 0 0 q8e 0 0 q8z)) (vs := c_ApiEvent y53) (L' := c_ApiEvent y53) (by kernel_rfl) ty50 hI (by kernel_rfl) (len_ApiEvent _ hl54) (by rw [(len_ApiEvent _ (by kernel_rfl))]; kernel_rfl) (ones_app _ _ (by kernel_rfl) (ones_cA _)) (lset_all _ _ (Eq.trans (len_ApiEvent _ hl54) (Eq.symm (len_ApiEvent _ (by kernel_rfl))))) ?_)
          intro w hI
          refine oP (r := []) [8, 9] (S' := [(0, .string a0), (2, pb b1), (4, pb b2), (9, iv y24), (10, iv x38), (12, .string y48), (14, pb b57), (15, .string y55), (16, .bool y56)]) ?_
          refine oD (qT (cQ ?_))
          obtain ⟨r2, h2, h1⟩ := bindS h1
          refine jM (fun a w => ∃ (x58 : Bool), x58 = r2 ∧ Fr 113 [(0, .string a0), (2, pb b1), (4, pb b2), (9, iv y24), (10, iv x38), (12, .string y48), (14, pb b57), (90, .bool x58)] a ∧ Inv w0 Z w (star (pt b57 (.cells (c_ApiEvent y53).toArray 50 (0, 0))) (star (pt b2 (.cells ((([iv x39] : LV) ++ (q8c x40) ++ ([.slice A43 x42.length cp44] : LV))).toArray 32 (0, 0))) (star (pt b1 (.cells q8b.toArray 32 (0, 0))) (star (ownS 50 c_ApiEvent 37 A43 cp44 x42) A))))) ?_ ?_
          ·
           refine cR [0, 1, 2, 3, 4, 5] ?_
           refine oP (r := [3, 4, 5]) [0, 1, 2] (S' := [(0, .string a0), (2, pb b1), (4, pb b2), (9, iv y24), (10, iv x38), (12, .string y48), (14, pb b57), (15, .string y55), (87, .bool (!y56))]) ?_
           by_cases hb59 : (!y56) = true
           ·
            rw [if_pos hb59] at h2
            refine OpsT.keep [0, 2, 4, 9, 10, 12, 14, 15, 87] (S' := [(0, .string a0), (2, pb b1), (4, pb b2), (9, iv y24), (10, iv x38), (12, .string y48), (14, pb b57), (15, .string y55), (87, .bool true)]) (by (try simp only [hb59]); kernel_rfl) ?_
            refine oP (r := []) [3, 4, 5] (S' := [(0, .string a0), (2, pb b1), (4, pb b2), (9, iv y24), (10, iv x38), (12, .string y48), (14, pb b57), (90, .bool true)]) ?_
            refine oD ?_
            have hI := hI.mono (pick2 _ _ _)
            have hI := hI.mono (pick4 _ _ _ _ _)
            have hI := hI.mono (pick4 _ _ _ _ _)
            have hI := hI.mono (pick4 _ _ _ _ _)
            have e := someS h2
            subst e
            exact jT fun a ha => ⟨true, rfl, ha.keep [0, 2, 4, 9, 10, 12, 14, 90] (by kernel_rfl), hI⟩
           ·
            rw [if_neg hb59] at h2
            have hb59 : (!y56) = false := by simpa using hb59
            refine OpsT.keep [0, 2, 4, 9, 10, 12, 14, 15, 87] (S' := [(0, .string a0), (2, pb b1), (4, pb b2), (9, iv y24), (10, iv x38), (12, .string y48), (14, pb b57), (15, .string y55), (87, .bool false)]) (by (try simp only [hb59]); kernel_rfl) ?_
            refine oP (r := []) [3, 4, 5] (S' := [(0, .string a0), (2, pb b1), (4, pb b2), (9, iv y24), (10, iv x38), (12, .string y48), (14, pb b57), (90, .bool (!(seq y55 q8e)))]) ?_
            refine oD ?_
            have hI := hI.mono (pick2 _ _ _)
            have hI := hI.mono (pick4 _ _ _ _ _)
            have hI := hI.mono (pick4 _ _ _ _ _)
            have hI := hI.mono (pick4 _ _ _ _ _)
            have e := someS h2
            subst e
            exact jT fun a ha => ⟨!(seq y55 q8e), rfl, ha.keep [0, 2, 4, 9, 10, 12, 14, 90] (by kernel_rfl), hI⟩
          ·
           rintro a w ⟨x58, rfl, ha, hI⟩
           try dsimp only at h1
           refine CodT.of ?_ ha
           by_cases hb60 : x58 = true
           ·
            rw [if_pos hb60] at h1
            refine cY (b := x58) hb60 ?_
            refine cQ (cR [0, 1, 2] ?_)
            refine oP (r := [1, 2]) [0] (S' := [(2, pb b1), (91, .agg q8b.toArray)]) ?_
            have hI := hI.mono (pick3 _ _ _ _)
            refine oC (dS (T := 32) (b := b1) (o := 0) (v := .agg q8b.toArray) (l := q8b) (vs := q8b) (L' := q8b) (by kernel_rfl) ty32 hI (by kernel_rfl) (by simp [cA_length]) (by rw [show List.length _ = 34 from (by simp [cA_length])]; kernel_rfl) (ones_app _ _ (ones_app _ _ (by kernel_rfl) (ones_cA _)) (by kernel_rfl)) (lset_all _ _ (Eq.trans (show List.length _ = 34 from (by simp [cA_length])) (Eq.symm (show List.length _ = 34 from (by simp [cA_length]))))) ?_)
            intro w hI
            refine oP (r := []) [2] (S' := [(2, pb b1), (3, .bool false)]) ?_
            refine oD (qT (jE (jR (jQ (jR (jR (jQ (jR (jR ?_)))))))))
            have hL61 := (ldBN ty32 (l := q8b) (o := 0) (cs := q8b) (ent_refl _) (by simp [cA_length]) (whole _ _ (by simp [cA_length]))) w hI
            have hI := hI.drop
            have hI := hI.drop
            have hI := hI.drop
            have hI := hI.drop
            have e := someS h1
            subst e
            try dsimp only at h0
            have e := someS h0
            subst e
            refine qK [2, 3] (S' := [(2, pb b1), (3, .bool false)]) ?_
            exact post_ret (v := .tuple #[.agg q8b.toArray, .bool false]) (fun a ha => jU (vs := [.agg q8b.toArray, .bool false]) (.cell (t := 2) (T := 32) (ad := ⟨b1, 0, none⟩) (by kernel_rfl) hL61 (.tmp (t := 3) (by kernel_rfl) .nil)) ha (by kernel_rfl)) ⟨none, 0, Z, Hp.le_refl _, rfl, (by kernel_rfl), (RdS.nil _ _ _ _ _ (Nat.zero_le _)), hI⟩
           ·
            rw [if_neg hb60] at h1
            refine cN (b := x58) (by simpa using hb60) ?_
            refine jS (qT (cQ (cR [0, 1, 2, 3, 4, 5, 6] ?_)))
            refine oP (r := [1, 2, 3, 4, 5, 6]) [0] (S' := [(0, .string a0), (2, pb b1), (4, pb b2), (9, iv y24), (10, iv x38), (12, .string y48), (14, pb b57), (92, .pointer (some ⟨b2, 33, none⟩))]) ?_
            refine oC (jY (jL (d := 93) (T := 24) (v := .slice A43 x42.length cp44) (by kernel_rfl) (ldB ty24 (l := (([iv x39] : LV) ++ (q8c x40) ++ ([.slice A43 x42.length cp44] : LV))) (o := 33) (v := .slice A43 x42.length cp44) (pick2 _ _ _) (seg_get [([iv x39] : LV), cA (Value.int .u8) x40, ([.slice A43 x42.length cp44] : LV)] 2 (by simp [cA_length, hl41]) (by simp [cA_length, hl41]) rfl))) hI ?_)
            refine oC (jY (jL (d := 94) (T := 50) (v := .agg (c_ApiEvent y53).toArray) (by kernel_rfl) (ldBN ty50 (l := c_ApiEvent y53) (o := 0) (cs := c_ApiEvent y53) (ent_refl _) (len_ApiEvent _ hl54) (whole _ _ (len_ApiEvent _ hl54)))) hI ?_)
            refine oC (Does.buildSliceAll (en := c_ApiEvent) (d := 95) (n := 1) (T := 24) (ps := [(0, .agg (c_ApiEvent y53).toArray)]) (fun y => .agg (c_ApiEvent y).toArray) (fun _ => rfl) ([y53] : List ApiEvent) (by kernel_rfl) rfl Go.Proofs.Tryz.underlying24 ty50 rfl (by kernel_rfl) (by kernel_rfl) (by decide +kernel) (List.forall_mem_cons.2 ⟨(len_ApiEvent _ hl54), (fun _ h => by cases h)⟩) hI ?_)
            intro b62 w hI
            obtain ⟨hg63, h1⟩ := guardS h1
            have hI := hI.mono (pick5 _ _ _ _ _ _)
            refine oC (Does.append (d := 96) (t := 24) (tx := 24) (ty := 24) (ys := x42) (zs := ([y53] : List ApiEvent)) (x := .slice (some ⟨b62, 0, none⟩) (([y53] : List ApiEvent).length) 1) (by kernel_rfl) Go.Proofs.Tryz.underlying24 ty50 (by kernel_rfl) hI (src_own Go.Proofs.Tryz.underlying24 (hI.mono (pick2 _ _ _)) (one_flat _ one_ApiEvent)) (ownS_facts (hI.mono (pick2 _ _ _))).2.2 (by unfold LIM at hg63; omega) hg63 ?_)
            intro A64 cp65 w hI
            refine oP (r := [6]) [5] (S' := [(0, .string a0), (2, pb b1), (4, pb b2), (9, iv y24), (10, iv x38), (12, .string y48), (96, .slice A64 ((x42 ++ ([y53] : List ApiEvent)).length) cp65), (97, .pointer (some ⟨b2, 33, none⟩))]) ?_
            have hI := hI.mono (pick4 _ _ _ _ _)
            refine oC (dS (T := 24) (b := b2) (o := 33) (v := .slice A64 ((x42 ++ ([y53] : List ApiEvent)).length) cp65) (l := (([iv x39] : LV) ++ (q8c x40) ++ ([.slice A43 x42.length cp44] : LV))) (vs := ([.slice A64 ((x42 ++ ([y53] : List ApiEvent)).length) cp65] : LV)) (L' := (([iv x39] : LV) ++ (q8c x40) ++ ([.slice A64 ((x42 ++ ([y53] : List ApiEvent)).length) cp65] : LV))) (by kernel_rfl) ty24 hI (by kernel_rfl) (by kernel_rfl) (by rw [show List.length _ = 34 from by simp [cA_length, hl41]]; kernel_rfl) (by kernel_rfl) (seg_set [([iv x39] : LV), cA (Value.int .u8) x40, ([.slice A43 x42.length cp44] : LV)] 2 (by simp [cA_length, hl41]) (by simp [cA_length, hl41]) (by simp [cA_length, hl41]) (by simp [cA_length, hl41])) ?_)
            intro w hI
            refine oD (qT (cR [0, 1] ?_))
            refine oP (r := []) [0, 1] (S' := [(0, .string a0), (2, pb b1), (4, pb b2), (6, .string y48), (9, iv y24), (10, iv x38)]) ?_
            refine oD (jN (qT (cR [0, 1, 2] ?_)))
            refine oP (r := []) [0, 1, 2] (S' := [(0, .string a0), (2, pb b1), (4, pb b2), (6, .string y48), (9, iv y24), (10, iv (wi64 (x38 + 1)))]) ?_
            refine oD ?_
            have hI := hI.mono (pick3 _ _ _ _)
            have hI := hI.drop
            have hI := hI.mono (pick3 _ _ _ _)
            have hI := hI.drop
            have hI := hI.mono (pick3 _ _ _ _)
            have hI := hI.mono (pick2 _ _ _)
            have hI := hI.mono (pick3 _ _ _ _)
            exact jT fun a ha => ⟨k, Nat.lt_succ_self k, y48, wi64 (x38 + 1), x39, x40, x42 ++ ([y53] : List ApiEvent), A64, cp65, h1, ha.keep [0, 2, 4, 6, 9, 10] (by kernel_rfl), hI, hl41⟩
        ·
         rw [if_neg hb45] at h1
         refine cN (b := decide (x38 < y24)) (by simpa using hb45) ?_
         refine jZ ?_
         refine jX (jX ?_)
         refine Qn.block ?_
         have e := someS h1
         subst e
         exact jT fun a ha => ⟨x39, x40, x42, A43, cp44, rfl, ha.keep [0, 2, 4] (by kernel_rfl), hI, hl41⟩
       ·
        rintro a w ⟨x31, x32, x34, A35, cp36, rfl, ha, hI, hl33⟩
        try dsimp only at h0
        refine Qn.of ?_ ha
        refine qT (cQ (cR [0, 1, 2, 3, 4, 5, 6] ?_))
        refine oC (jY (jL (d := 100) (T := 32) (v := .agg ((([iv x31] : LV) ++ (q8c x32) ++ ([.slice A35 x34.length cp36] : LV))).toArray) (by kernel_rfl) (ldBN ty32 (l := (([iv x31] : LV) ++ (q8c x32) ++ ([.slice A35 x34.length cp36] : LV))) (o := 0) (cs := (([iv x31] : LV) ++ (q8c x32) ++ ([.slice A35 x34.length cp36] : LV))) (pick2 _ _ _) (by simp [cA_length, hl33]) (whole _ _ (by simp [cA_length, hl33])))) hI ?_)
        obtain ⟨Z66, hle67, hr68, hI⟩ := ownS_freeze hI
        obtain ⟨⟨y70, y71⟩, hc69, h0⟩ := bindS h0
        try dsimp only at h0
        refine oC (jC (d := some 101) (n := 9) (vs := [.agg ((([iv x31] : LV) ++ (q8c x32) ++ ([.slice A35 x34.length cp36] : LV))).toArray]) (by kernel_rfl) en9 (c9 w0 w _ _ hI (hT.mono hle67) x31 x32 hl33 A35 cp36 x34 hr68 _ hc69) ?_)
        rintro e w ⟨rfl, hI⟩
        refine ⟨_, rfl, ?_⟩
        refine oP (r := []) [2, 3, 4, 5, 6] (S' := [(0, .string a0), (2, pb b1), (4, pb b2), (17, .string y70), (18, .bool y71)]) ?_
        refine oD (qT (cQ ?_))
        obtain ⟨r1, h1, h0⟩ := bindS h0
        refine jM (fun a w => ∃ (x72 : Bool), x72 = r1 ∧ Fr 113 [(2, pb b1), (4, pb b2), (110, .bool x72)] a ∧ Inv w0 Z66 w (star (pt b2 (.cells ((([iv x31] : LV) ++ (q8c x32) ++ ([.slice A35 x34.length cp36] : LV))).toArray 32 (0, 0))) (star (pt b1 (.cells q8b.toArray 32 (0, 0))) A))) ?_ ?_
        ·
         refine cR [0, 1, 2, 3, 4, 5, 6] ?_
         refine oP (r := [3, 4, 5, 6]) [0, 1, 2] (S' := [(0, .string a0), (2, pb b1), (4, pb b2), (17, .string y70), (106, .bool (!y71))]) ?_
         by_cases hb73 : (!y71) = true
         ·
          rw [if_pos hb73] at h1
          refine OpsT.keep [0, 2, 4, 17, 106] (S' := [(0, .string a0), (2, pb b1), (4, pb b2), (17, .string y70), (106, .bool true)]) (by (try simp only [hb73]); kernel_rfl) ?_
          refine oP (r := []) [3, 4, 5, 6] (S' := [(2, pb b1), (4, pb b2), (110, .bool true)]) ?_
          refine oD ?_
          have e := someS h1
          subst e
          exact jT fun a ha => ⟨true, rfl, ha.keep [2, 4, 110] (by kernel_rfl), hI⟩
         ·
          rw [if_neg hb73] at h1
          have hb73 : (!y71) = false := by simpa using hb73
          refine OpsT.keep [0, 2, 4, 17, 106] (S' := [(0, .string a0), (2, pb b1), (4, pb b2), (17, .string y70), (106, .bool false)]) (by (try simp only [hb73]); kernel_rfl) ?_
          refine oP (r := []) [3, 4, 5, 6] (S' := [(2, pb b1), (4, pb b2), (110, .bool (!(seq y70 a0)))]) ?_
          refine oD ?_
          have e := someS h1
          subst e
          exact jT fun a ha => ⟨!(seq y70 a0), rfl, ha.keep [2, 4, 110] (by kernel_rfl), hI⟩
        ·
         rintro a w ⟨x72, rfl, ha, hI⟩
         try dsimp only at h0
         refine CodT.of ?_ ha
         by_cases hb74 : x72 = true
         ·
          rw [if_pos hb74] at h0
          refine cY (b := x72) hb74 ?_
          refine cQ (cR [0, 1, 2] ?_)
          refine oP (r := [1, 2]) [0] (S' := [(2, pb b1), (111, .agg q8b.toArray)]) ?_
          have hI := hI.mono (pick2 _ _ _)
          refine oC (dS (T := 32) (b := b1) (o := 0) (v := .agg q8b.toArray) (l := q8b) (vs := q8b) (L' := q8b) (by kernel_rfl) ty32 hI (by kernel_rfl) (by simp [cA_length]) (by rw [show List.length _ = 34 from (by simp [cA_length])]; kernel_rfl) (ones_app _ _ (ones_app _ _ (by kernel_rfl) (ones_cA _)) (by kernel_rfl)) (lset_all _ _ (Eq.trans (show List.length _ = 34 from (by simp [cA_length])) (Eq.symm (show List.length _ = 34 from (by simp [cA_length]))))) ?_)
          intro w hI
          refine oP (r := []) [2] (S' := [(2, pb b1), (3, .bool false)]) ?_
          refine oD (qT (jE (jR ?_)))
          have hL75 := (ldBN ty32 (l := q8b) (o := 0) (cs := q8b) (ent_refl _) (by simp [cA_length]) (whole _ _ (by simp [cA_length]))) w hI
          have hI := hI.drop
          have hI := hI.drop
          have e := someS h0
          subst e
          refine qK [2, 3] (S' := [(2, pb b1), (3, .bool false)]) ?_
          exact post_ret (v := .tuple #[.agg q8b.toArray, .bool false]) (fun a ha => jU (vs := [.agg q8b.toArray, .bool false]) (.cell (t := 2) (T := 32) (ad := ⟨b1, 0, none⟩) (by kernel_rfl) hL75 (.tmp (t := 3) (by kernel_rfl) .nil)) ha (by kernel_rfl)) ⟨none, 0, Z66, hle67, rfl, (by kernel_rfl), (RdS.nil _ _ _ _ _ (Nat.zero_le _)), hI⟩
         ·
          rw [if_neg hb74] at h0
          refine cN (b := x72) (by simpa using hb74) ?_
          refine jS (qT (cQ (cR [0, 1, 2] ?_)))
          refine oC (jY (jL (d := 112) (T := 32) (v := .agg ((([iv x31] : LV) ++ (q8c x32) ++ ([.slice A35 x34.length cp36] : LV))).toArray) (by kernel_rfl) (ldBN ty32 (l := (([iv x31] : LV) ++ (q8c x32) ++ ([.slice A35 x34.length cp36] : LV))) (o := 0) (cs := (([iv x31] : LV) ++ (q8c x32) ++ ([.slice A35 x34.length cp36] : LV))) (ent_refl _) (by simp [cA_length, hl33]) (whole _ _ (by simp [cA_length, hl33])))) hI ?_)
          have hI := hI.mono (pick2 _ _ _)
          refine oC (dS (T := 32) (b := b1) (o := 0) (v := .agg ((([iv x31] : LV) ++ (q8c x32) ++ ([.slice A35 x34.length cp36] : LV))).toArray) (l := q8b) (vs := (([iv x31] : LV) ++ (q8c x32) ++ ([.slice A35 x34.length cp36] : LV))) (L' := (([iv x31] : LV) ++ (q8c x32) ++ ([.slice A35 x34.length cp36] : LV))) (by kernel_rfl) ty32 hI (by kernel_rfl) (by simp [cA_length, hl33]) (by rw [show List.length _ = 34 from (by simp [cA_length])]; kernel_rfl) (ones_app _ _ (ones_app _ _ (by kernel_rfl) (ones_cA _)) (by kernel_rfl)) (lset_all _ _ (Eq.trans (show List.length _ = 34 from (by simp [cA_length, hl33])) (Eq.symm (show List.length _ = 34 from (by simp [cA_length]))))) ?_)
          intro w hI
          refine oP (r := []) [2] (S' := [(2, pb b1), (3, .bool true)]) ?_
          refine oD (qT (jE ?_))
          have hL76 := (ldBN ty32 (l := (([iv x31] : LV) ++ (q8c x32) ++ ([.slice A35 x34.length cp36] : LV))) (o := 0) (cs := (([iv x31] : LV) ++ (q8c x32) ++ ([.slice A35 x34.length cp36] : LV))) (ent_refl _) (by simp [cA_length, hl33]) (whole _ _ (by simp [cA_length, hl33]))) w hI
          have hI := hI.drop
          have hI := hI.drop
          have e := someS h0
          subst e
          refine qK [2, 3] (S' := [(2, pb b1), (3, .bool true)]) ?_
          exact post_ret (v := .tuple #[.agg ((([iv x31] : LV) ++ (q8c x32) ++ ([.slice A35 x34.length cp36] : LV))).toArray, .bool true]) (fun a ha => jU (vs := [.agg ((([iv x31] : LV) ++ (q8c x32) ++ ([.slice A35 x34.length cp36] : LV))).toArray, .bool true]) (.cell (t := 2) (T := 32) (ad := ⟨b1, 0, none⟩) (by kernel_rfl) hL76 (.tmp (t := 3) (by kernel_rfl) .nil)) ha (by kernel_rfl)) ⟨A35, cp36, Z66, hle67, rfl, hl33, hr68, hI⟩
end Go.Cen
