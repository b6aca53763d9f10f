/- That the machine computes these: walks, printed by a program of ours. -/
import Derived.Test.YthdoklobbcedcacDoorPx
import Derived.Test.YthdoklobbcedcacDoorWx4
set_option linter.unusedVariables false
set_option linter.unusedSimpArgs false
namespace Go.Cen
set_option maxRecDepth 100000
set_option maxHeartbeats 4000000
/-- cenotaph/cenotaphref03.Valid -/
theorem c72 (w0 w : World) (Z : Hp) (A : HP) (hI : Inv w0 Z w A) (hT : Tabs Z) (a0 : ByteArray) (r : Bool) (h0 : ref03_Valid a0 = some r) :
  Calls prog 72 #[.string a0] w (fun e w' => e = .returned (.bool r) ∧ Inv w0 Z w' A) := by
 have e4 := calls_intro (R := (fun e w' => e = .returned (.bool r) ∧ Inv w0 Z w' A)) (w := w) (args := [.string a0]) (fn := Go.Proofs.Tryd.f72) 63 Go.Proofs.Tryd.func72 (by rfl) Go.Proofs.Tryd.ntmps72 (by kernel_rfl)
 refine e4 ?_
 clear e4
 unfold ref03_Valid at h0
 refine cQ ?_
 refine cR [0] (by kernel_rfl) ?_
 refine oP (r := []) [0] (S' := [(0, .string a0)]) (by kernel_rfl) ?_
 refine oD ?_
 refine qT ?_
 refine cQ ?_
 refine cR [0, 1, 2] (by kernel_rfl) ?_
 refine oP (r := [1, 2]) [0] (S' := [(6, .string a0)]) (by kernel_rfl) ?_
 obtain ⟨y2, hc1, h0⟩ := bindS h0
 try dsimp only at h0
 refine oC (Does.call (d := some 7) (n := 43) (vs := [.string a0]) (by kernel_rfl) en43 (c43 w0 w _ _ hI hT a0 _ hc1) ?_)
 rintro e w ⟨A3, cp4, rfl, hI⟩
 refine ⟨_, rfl, ?_⟩
 refine oP (r := []) [2] (S' := [(3, .slice A3 y2.length cp4)]) (by kernel_rfl) ?_
 refine oD ?_
 refine qT ?_
 refine cQ ?_
 obtain ⟨r1, h1, h0⟩ := bindS h0
 refine CodT.meet (fun a w => ∃ (x5 : Bool), x5 = r1 ∧ Fr 63 [(3, .slice A3 y2.length cp4), (30, .bool x5)] a ∧ Inv w0 Z w (star (ownS 3 (cI .i64) 1 A3 cp4 y2) A)) ?_ ?_
 ·
  refine cR [0, 1, 2, 3, 4, 5, 6, 7, 8, 9, 10, 11, 12, 13, 14, 15, 16, 17, 18, 19, 20, 21, 22] (by kernel_rfl) ?_
  refine oP (r := [4, 5, 6, 7, 8, 9, 10, 11, 12, 13, 14, 15, 16, 17, 18, 19, 20, 21, 22]) [0, 1, 2, 3] (S' := [(3, .slice A3 y2.length cp4), (11, .bool (decide ((y2.length : Int) < 1)))]) (by kernel_rfl) ?_
  by_cases hb6 : (decide ((y2.length : Int) < 1)) = true
  ·
   rw [if_pos hb6] at h1
   refine oK [3, 11] (S' := [(3, .slice A3 y2.length cp4), (11, .bool true)]) (by (try simp only [hb6]); kernel_rfl) ?_
   refine oP (r := []) [4, 5, 6, 7, 8, 9, 10, 11, 12, 13, 14, 15, 16, 17, 18, 19, 20, 21, 22] (S' := [(3, .slice A3 y2.length cp4), (30, .bool true)]) (by kernel_rfl) ?_
   refine oD ?_
   have e := someS h1
   subst e
   exact Qn.thenJ fun a ha => ⟨true, rfl, ha.keep [3, 30] (by kernel_rfl), hI⟩
  ·
   rw [if_neg hb6] at h1
   have hb6 : (decide ((y2.length : Int) < 1)) = false := by simpa using hb6
   refine oK [3, 11] (S' := [(3, .slice A3 y2.length cp4), (11, .bool false)]) (by (try simp only [hb6]); kernel_rfl) ?_
   refine oP (r := [9, 10, 11, 12, 13, 14, 15, 16, 17, 18, 19, 20, 21, 22]) [4, 5, 6, 7, 8] (S' := [(3, .slice A3 y2.length cp4), (16, .bool (decide ((y2.length : Int) > 24)))]) (by kernel_rfl) ?_
   by_cases hb7 : (decide ((y2.length : Int) > 24)) = true
   ·
    rw [if_pos hb7] at h1
    refine oK [3, 16] (S' := [(3, .slice A3 y2.length cp4), (16, .bool true)]) (by (try simp only [hb7]); kernel_rfl) ?_
    refine oP (r := []) [9, 10, 11, 12, 13, 14, 15, 16, 17, 18, 19, 20, 21, 22] (S' := [(3, .slice A3 y2.length cp4), (30, .bool true)]) (by kernel_rfl) ?_
    refine oD ?_
    have e := someS h1
    subst e
    exact Qn.thenJ fun a ha => ⟨true, rfl, ha.keep [3, 30] (by kernel_rfl), hI⟩
   ·
    rw [if_neg hb7] at h1
    have hb7 : (decide ((y2.length : Int) > 24)) = false := by simpa using hb7
    refine oK [3, 16] (S' := [(3, .slice A3 y2.length cp4), (16, .bool false)]) (by (try simp only [hb7]); kernel_rfl) ?_
    refine oP (r := [10, 11, 12, 13, 14, 15, 16, 17, 18, 19, 20, 21, 22]) [9] (S' := [(3, .slice A3 y2.length cp4), (16, .bool false), (17, .slice A3 y2.length cp4)]) (by kernel_rfl) ?_
    obtain ⟨hg8, h1⟩ := guardS h1
    obtain ⟨g9, hA10, hr11, hl12⟩ := ownS_get hI hg8.1 hg8.2
    refine oC (Does.yi (Yl.indexSlice (d := 18) (T := 32) (cc := cp4) (k := .i64) (j := 0) (g := g9) (o := 0) (by kernel_rfl) Go.Proofs.Tryd.underlying32 ty3 hA10 hg8.1 hg8.2) hI ?_)
    refine oC (Does.yi (Yl.load (d := 19) (T := 3) (v := iv (gt y2 0)) (by kernel_rfl) (ldR ty3 (v := iv (gt y2 0)) 0 (fun w hC => hr11 w0 w _ hC) (by kernel_rfl))) hI ?_)
    refine oP (r := [15, 16, 17, 18, 19, 20, 21, 22]) [12, 13, 14] (S' := [(3, .slice A3 y2.length cp4), (22, .bool ((gt y2 0) == 32))]) (by kernel_rfl) ?_
    by_cases hb13 : ((gt y2 0) == 32) = true
    ·
     rw [if_pos hb13] at h1
     refine oK [3, 22] (S' := [(3, .slice A3 y2.length cp4), (22, .bool true)]) (by (try simp only [hb13]); kernel_rfl) ?_
     refine oP (r := []) [15, 16, 17, 18, 19, 20, 21, 22] (S' := [(3, .slice A3 y2.length cp4), (30, .bool true)]) (by kernel_rfl) ?_
     refine oD ?_
     have e := someS h1
     subst e
     exact Qn.thenJ fun a ha => ⟨true, rfl, ha.keep [3, 30] (by kernel_rfl), hI⟩
    ·
     rw [if_neg hb13] at h1
     have hb13 : ((gt y2 0) == 32) = false := by simpa using hb13
     refine oK [3, 22] (S' := [(3, .slice A3 y2.length cp4), (22, .bool false)]) (by (try simp only [hb13]); kernel_rfl) ?_
     refine oP (r := [19, 20, 21, 22]) [15, 16, 17, 18] (S' := [(3, .slice A3 y2.length cp4), (22, .bool false), (23, .slice A3 y2.length cp4), (26, iv (wi64 ((y2.length : Int) - 1)))]) (by kernel_rfl) ?_
     obtain ⟨hg14, h1⟩ := guardS h1
     obtain ⟨g15, hA16, hr17, hl18⟩ := ownS_get hI hg14.1 hg14.2
     refine oC (Does.yi (Yl.indexSlice (d := 27) (T := 32) (cc := cp4) (k := .i64) (j := wi64 ((y2.length : Int) - 1)) (g := g15) (o := 0) (by kernel_rfl) Go.Proofs.Tryd.underlying32 ty3 hA16 hg14.1 hg14.2) hI ?_)
     refine oC (Does.yi (Yl.load (d := 28) (T := 3) (v := iv (gt y2 (wi64 ((y2.length : Int) - 1)))) (by kernel_rfl) (ldR ty3 (v := iv (gt y2 (wi64 ((y2.length : Int) - 1)))) 0 (fun w hC => hr17 w0 w _ hC) (by kernel_rfl))) hI ?_)
     refine oP (r := []) [21, 22] (S' := [(3, .slice A3 y2.length cp4), (30, .bool ((gt y2 (wi64 ((y2.length : Int) - 1))) == 32))]) (by kernel_rfl) ?_
     refine oD ?_
     have e := someS h1
     subst e
     exact Qn.thenJ fun a ha => ⟨(gt y2 (wi64 ((y2.length : Int) - 1))) == 32, rfl, ha.keep [3, 30] (by kernel_rfl), hI⟩
 ·
  rintro a w ⟨x5, rfl, ha, hI⟩
  try dsimp only at h0
  refine CodT.of ?_ ha
  by_cases hb19 : x5 = true
  ·
   rw [if_pos hb19] at h0
   refine CodT.yes' (b := x5) (by kernel_rfl) hb19 ?_
   refine cQ ?_
   refine cR [0] (by kernel_rfl) ?_
   refine oP (r := []) [0] (S' := [(2, .bool false)]) (by kernel_rfl) ?_
   refine oD ?_
   refine qT ?_
   refine CodT.ret ?_
   refine Qn.ret_then ?_
   have hI := hI.drop
   have e := someS h0
   subst e
   refine qK [2] (S' := [(2, .bool false)]) (by kernel_rfl) ?_
   exact post_ret (v := .bool false) (fun a ha => RunRes.run (vs := [.bool false]) (.tmp (t := 2) (by kernel_rfl) .nil) ha (by kernel_rfl)) ⟨rfl, hI⟩
  ·
   rw [if_neg hb19] at h0
   refine CodT.no' (b := x5) (by kernel_rfl) (by simpa using hb19) ?_
   refine CodT.skip ?_
   refine qT ?_
   refine cQ ?_
   refine cQ ?_
   refine cR [0] (by kernel_rfl) ?_
   refine oP (r := []) [0] (S' := [(3, .slice A3 y2.length cp4), (4, iv 0)]) (by kernel_rfl) ?_
   refine oD ?_
   refine qT ?_
   obtain ⟨r1, h1, h0⟩ := bindS h0
   refine CodT.meet1 (fun a w => .inr () = r1 ∧ Fr 63 [] a ∧ Inv w0 Z w A) ?_ ?_
   ·
    refine CodT.block ?_
    refine (fun a ha => wp_loopN (fun k a w => ∃ (x20 : Int), ref03_Valid.l0 y2 k x20 = some r1 ∧ Fr 63 [(3, .slice A3 y2.length cp4), (4, iv x20)] a ∧ Inv w0 Z w (star (ownS 3 (cI .i64) 1 A3 cp4 y2) A)) ?_ FU a w ⟨0, h1, ha.keep [3, 4] (by kernel_rfl), hI⟩)
    clear h1 hI
    rintro k a w ⟨x20, h1, ha, hI⟩
    rcases k with _ | k
    ·
     cases h1
    simp only [ref03_Valid.l0] at h1
    refine CodT.of ?_ ha
    refine cQ ?_
    refine cQ ?_
    refine cR [0, 1, 2, 3] (by kernel_rfl) ?_
    refine oP (r := []) [0, 1, 2, 3] (S' := [(3, .slice A3 y2.length cp4), (4, iv x20), (34, .bool (decide (x20 < (y2.length : Int))))]) (by kernel_rfl) ?_
    refine oD ?_
    refine qT ?_
    by_cases hb21 : (decide (x20 < (y2.length : Int))) = true
    ·
     rw [if_pos hb21] at h1
     refine CodT.yes' (b := decide (x20 < (y2.length : Int))) (by kernel_rfl) hb21 ?_
     refine CodT.skip ?_
     refine qT ?_
     refine cQ ?_
     refine CodT.block ?_
     refine cQ ?_
     refine cR [0, 1, 2, 3, 4] (by kernel_rfl) ?_
     refine oP (r := [2, 3, 4]) [0, 1] (S' := [(3, .slice A3 y2.length cp4), (4, iv x20), (37, .slice A3 y2.length cp4), (38, iv x20)]) (by kernel_rfl) ?_
     obtain ⟨hg22, h1⟩ := guardS h1
     obtain ⟨g23, hA24, hr25, hl26⟩ := ownS_get hI hg22.1 hg22.2
     refine oC (Does.yi (Yl.indexSlice (d := 39) (T := 32) (cc := cp4) (k := .i64) (j := x20) (g := g23) (o := 0) (by kernel_rfl) Go.Proofs.Tryd.underlying32 ty3 hA24 hg22.1 hg22.2) hI ?_)
     refine oC (Does.yi (Yl.load (d := 40) (T := 3) (v := iv (gt y2 x20)) (by kernel_rfl) (ldR ty3 (v := iv (gt y2 x20)) 0 (fun w hC => hr25 w0 w _ hC) (by kernel_rfl))) hI ?_)
     refine oP (r := []) [4] (S' := [(3, .slice A3 y2.length cp4), (4, iv x20), (5, iv (gt y2 x20))]) (by kernel_rfl) ?_
     refine oD ?_
     refine qT ?_
     obtain ⟨r2, h2, h1⟩ := bindS h1
     refine CodT.meet (fun a w => ∃ (x27 : Bool), x27 = r2 ∧ Fr 63 [(3, .slice A3 y2.length cp4), (4, iv x20), (62, .bool x27)] a ∧ Inv w0 Z w (star (ownS 3 (cI .i64) 1 A3 cp4 y2) A)) ?_ ?_
     ·
      refine cR [0, 1, 2, 3, 4, 5, 6, 7, 8, 9, 10, 11, 12, 13, 14, 15, 16, 17, 18, 19, 20, 21] (by kernel_rfl) ?_
      refine oP (r := [3, 4, 5, 6, 7, 8, 9, 10, 11, 12, 13, 14, 15, 16, 17, 18, 19, 20, 21]) [0, 1, 2] (S' := [(3, .slice A3 y2.length cp4), (4, iv x20), (5, iv (gt y2 x20)), (43, .bool (decide ((gt y2 x20) < 32)))]) (by kernel_rfl) ?_
      by_cases hb28 : (decide ((gt y2 x20) < 32)) = true
      ·
       rw [if_pos hb28] at h2
       refine oK [3, 4, 5, 43] (S' := [(3, .slice A3 y2.length cp4), (4, iv x20), (5, iv (gt y2 x20)), (43, .bool true)]) (by (try simp only [hb28]); kernel_rfl) ?_
       refine oP (r := []) [3, 4, 5, 6, 7, 8, 9, 10, 11, 12, 13, 14, 15, 16, 17, 18, 19, 20, 21] (S' := [(3, .slice A3 y2.length cp4), (4, iv x20), (62, .bool true)]) (by kernel_rfl) ?_
       refine oD ?_
       have e := someS h2
       subst e
       exact Qn.thenJ fun a ha => ⟨true, rfl, ha.keep [3, 4, 62] (by kernel_rfl), hI⟩
      ·
       rw [if_neg hb28] at h2
       have hb28 : (decide ((gt y2 x20) < 32)) = false := by simpa using hb28
       refine oK [3, 4, 5, 43] (S' := [(3, .slice A3 y2.length cp4), (4, iv x20), (5, iv (gt y2 x20)), (43, .bool false)]) (by (try simp only [hb28]); kernel_rfl) ?_
       refine oP (r := [7, 8, 9, 10, 11, 12, 13, 14, 15, 16, 17, 18, 19, 20, 21]) [3, 4, 5, 6] (S' := [(3, .slice A3 y2.length cp4), (4, iv x20), (5, iv (gt y2 x20)), (47, .bool ((gt y2 x20) == 47))]) (by kernel_rfl) ?_
       by_cases hb29 : ((gt y2 x20) == 47) = true
       ·
        rw [if_pos hb29] at h2
        refine oK [3, 4, 5, 47] (S' := [(3, .slice A3 y2.length cp4), (4, iv x20), (5, iv (gt y2 x20)), (47, .bool true)]) (by (try simp only [hb29]); kernel_rfl) ?_
        refine oP (r := []) [7, 8, 9, 10, 11, 12, 13, 14, 15, 16, 17, 18, 19, 20, 21] (S' := [(3, .slice A3 y2.length cp4), (4, iv x20), (62, .bool true)]) (by kernel_rfl) ?_
        refine oD ?_
        have e := someS h2
        subst e
        exact Qn.thenJ fun a ha => ⟨true, rfl, ha.keep [3, 4, 62] (by kernel_rfl), hI⟩
       ·
        rw [if_neg hb29] at h2
        have hb29 : ((gt y2 x20) == 47) = false := by simpa using hb29
        refine oK [3, 4, 5, 47] (S' := [(3, .slice A3 y2.length cp4), (4, iv x20), (5, iv (gt y2 x20)), (47, .bool false)]) (by (try simp only [hb29]); kernel_rfl) ?_
        refine oP (r := [10, 11, 12, 13, 14, 15, 16, 17, 18, 19, 20, 21]) [7, 8, 9] (S' := [(3, .slice A3 y2.length cp4), (4, iv x20), (5, iv (gt y2 x20)), (47, .bool false), (50, .bool (decide ((gt y2 x20) ≥ 127)))]) (by kernel_rfl) ?_
        by_cases hb30 : (decide ((gt y2 x20) ≥ 127)) = true
        ·
         rw [if_pos hb30] at h2
         refine oK [3, 4, 5, 47, 50] (S' := [(3, .slice A3 y2.length cp4), (4, iv x20), (5, iv (gt y2 x20)), (47, .bool false), (50, .bool true)]) (by (try simp only [hb30]); kernel_rfl) ?_
         refine oP (r := [15, 16, 17, 18, 19, 20, 21]) [10, 11, 12, 13, 14] (S' := [(3, .slice A3 y2.length cp4), (4, iv x20), (5, iv (gt y2 x20)), (55, .bool (decide ((gt y2 x20) ≤ 159)))]) (by kernel_rfl) ?_
         by_cases hb31 : (decide ((gt y2 x20) ≤ 159)) = true
         ·
          rw [if_pos hb31] at h2
          refine oK [3, 4, 5, 55] (S' := [(3, .slice A3 y2.length cp4), (4, iv x20), (5, iv (gt y2 x20)), (55, .bool true)]) (by (try simp only [hb31]); kernel_rfl) ?_
          refine oP (r := []) [15, 16, 17, 18, 19, 20, 21] (S' := [(3, .slice A3 y2.length cp4), (4, iv x20), (62, .bool true)]) (by kernel_rfl) ?_
          refine oD ?_
          have e := someS h2
          subst e
          exact Qn.thenJ fun a ha => ⟨true, rfl, ha.keep [3, 4, 62] (by kernel_rfl), hI⟩
         ·
          rw [if_neg hb31] at h2
          have hb31 : (decide ((gt y2 x20) ≤ 159)) = false := by simpa using hb31
          refine oK [3, 4, 5, 55] (S' := [(3, .slice A3 y2.length cp4), (4, iv x20), (5, iv (gt y2 x20)), (55, .bool false)]) (by (try simp only [hb31]); kernel_rfl) ?_
          refine oP (r := [19, 20, 21]) [15, 16, 17, 18] (S' := [(3, .slice A3 y2.length cp4), (4, iv x20), (5, iv (gt y2 x20)), (59, .bool ((gt y2 x20) == 65533))]) (by kernel_rfl) ?_
          by_cases hb32 : ((gt y2 x20) == 65533) = true
          ·
           rw [if_pos hb32] at h2
           refine oK [3, 4, 5, 59] (S' := [(3, .slice A3 y2.length cp4), (4, iv x20), (5, iv (gt y2 x20)), (59, .bool true)]) (by (try simp only [hb32]); kernel_rfl) ?_
           refine oP (r := []) [19, 20, 21] (S' := [(3, .slice A3 y2.length cp4), (4, iv x20), (62, .bool true)]) (by kernel_rfl) ?_
           refine oD ?_
           have e := someS h2
           subst e
           exact Qn.thenJ fun a ha => ⟨true, rfl, ha.keep [3, 4, 62] (by kernel_rfl), hI⟩
          ·
           rw [if_neg hb32] at h2
           have hb32 : ((gt y2 x20) == 65533) = false := by simpa using hb32
           refine oK [3, 4, 5, 59] (S' := [(3, .slice A3 y2.length cp4), (4, iv x20), (5, iv (gt y2 x20)), (59, .bool false)]) (by (try simp only [hb32]); kernel_rfl) ?_
           refine oP (r := []) [19, 20, 21] (S' := [(3, .slice A3 y2.length cp4), (4, iv x20), (62, .bool (decide ((gt y2 x20) ≥ 1114112)))]) (by kernel_rfl) ?_
           refine oD ?_
           have e := someS h2
           subst e
           exact Qn.thenJ fun a ha => ⟨decide ((gt y2 x20) ≥ 1114112), rfl, ha.keep [3, 4, 62] (by kernel_rfl), hI⟩
        ·
         rw [if_neg hb30] at h2
         have hb30 : (decide ((gt y2 x20) ≥ 127)) = false := by simpa using hb30
         refine oK [3, 4, 5, 47, 50] (S' := [(3, .slice A3 y2.length cp4), (4, iv x20), (5, iv (gt y2 x20)), (47, .bool false), (50, .bool false)]) (by (try simp only [hb30]); kernel_rfl) ?_
         refine oP (r := [19, 20, 21]) [10, 11, 12, 13, 14, 15, 16, 17, 18] (S' := [(3, .slice A3 y2.length cp4), (4, iv x20), (5, iv (gt y2 x20)), (59, .bool ((gt y2 x20) == 65533))]) (by kernel_rfl) ?_
         by_cases hb33 : ((gt y2 x20) == 65533) = true
         ·
          rw [if_pos hb33] at h2
          refine oK [3, 4, 5, 59] (S' := [(3, .slice A3 y2.length cp4), (4, iv x20), (5, iv (gt y2 x20)), (59, .bool true)]) (by (try simp only [hb33]); kernel_rfl) ?_
          refine oP (r := []) [19, 20, 21] (S' := [(3, .slice A3 y2.length cp4), (4, iv x20), (62, .bool true)]) (by kernel_rfl) ?_
          refine oD ?_
          have e := someS h2
          subst e
          exact Qn.thenJ fun a ha => ⟨true, rfl, ha.keep [3, 4, 62] (by kernel_rfl), hI⟩
         ·
          rw [if_neg hb33] at h2
          have hb33 : ((gt y2 x20) == 65533) = false := by simpa using hb33
          refine oK [3, 4, 5, 59] (S' := [(3, .slice A3 y2.length cp4), (4, iv x20), (5, iv (gt y2 x20)), (59, .bool false)]) (by (try simp only [hb33]); kernel_rfl) ?_
          refine oP (r := []) [19, 20, 21] (S' := [(3, .slice A3 y2.length cp4), (4, iv x20), (62, .bool (decide ((gt y2 x20) ≥ 1114112)))]) (by kernel_rfl) ?_
          refine oD ?_
          have e := someS h2
          subst e
          exact Qn.thenJ fun a ha => ⟨decide ((gt y2 x20) ≥ 1114112), rfl, ha.keep [3, 4, 62] (by kernel_rfl), hI⟩
     ·
      rintro a w ⟨x27, rfl, ha, hI⟩
      try dsimp only at h1
      refine CodT.of ?_ ha
      by_cases hb34 : x27 = true
      ·
       rw [if_pos hb34] at h1
       refine CodT.yes' (b := x27) (by kernel_rfl) hb34 ?_
       refine cQ ?_
       refine cR [0] (by kernel_rfl) ?_
       refine oP (r := []) [0] (S' := [(2, .bool false)]) (by kernel_rfl) ?_
       refine oD ?_
       refine qT ?_
       refine CodT.ret ?_
       refine Qn.block_ret ?_
       refine Qn.ret_then ?_
       refine Qn.ret_then ?_
       refine Qn.block_ret ?_
       refine Qn.ret_then ?_
       refine Qn.ret_then ?_
       have hI := hI.drop
       have e := someS h1
       subst e
       try dsimp only at h0
       have e := someS h0
       subst e
       refine qK [2] (S' := [(2, .bool false)]) (by kernel_rfl) ?_
       exact post_ret (v := .bool false) (fun a ha => RunRes.run (vs := [.bool false]) (.tmp (t := 2) (by kernel_rfl) .nil) ha (by kernel_rfl)) ⟨rfl, hI⟩
      ·
       rw [if_neg hb34] at h1
       refine CodT.no' (b := x27) (by kernel_rfl) (by simpa using hb34) ?_
       refine CodT.skip ?_
       refine Qn.block_normal ?_
       refine qT ?_
       refine cR [0, 1, 2] (by kernel_rfl) ?_
       refine oP (r := []) [0, 1, 2] (S' := [(3, .slice A3 y2.length cp4), (4, iv (wi64 (x20 + 1)))]) (by kernel_rfl) ?_
       refine oD ?_
       exact Qn.thenJ fun a ha => ⟨k, Nat.lt_succ_self k, wi64 (x20 + 1), h1, ha.keep [3, 4] (by kernel_rfl), hI⟩
    ·
     rw [if_neg hb21] at h1
     refine CodT.no' (b := decide (x20 < (y2.length : Int))) (by kernel_rfl) (by simpa using hb21) ?_
     refine CodT.exit ?_
     refine Qn.exit_then ?_
     refine Qn.exit_then ?_
     refine Qn.block ?_
     have hI := hI.drop
     have e := someS h1
     subst e
     exact Qn.thenJ fun a ha => ⟨rfl, ha.keep [] (by kernel_rfl), hI⟩
   ·
    rintro a w ⟨rfl, ha, hI⟩
    try dsimp only at h0
    refine Qn.of ?_ ha
    refine qT ?_
    refine cQ ?_
    refine cR [0] (by kernel_rfl) ?_
    refine oP (r := []) [0] (S' := [(2, .bool true)]) (by kernel_rfl) ?_
    refine oD ?_
    refine qT ?_
    refine CodT.ret ?_
    have e := someS h0
    subst e
    refine qK [2] (S' := [(2, .bool true)]) (by kernel_rfl) ?_
    exact post_ret (v := .bool true) (fun a ha => RunRes.run (vs := [.bool true]) (.tmp (t := 2) (by kernel_rfl) .nil) ha (by kernel_rfl)) ⟨rfl, hI⟩
/-- cenotaph/cenotaphref07.place -/
theorem c73 (w0 w : World) (Z : Hp) (A : HP) (hI : Inv w0 Z w A) (hT : Tabs Z) (A_a0 : Option Addr) (c_a0 : Nat) (a0 : (List ByteArray)) (hr_a0 : RdS Z cS 1 A_a0 c_a0 a0) (a1 : ByteArray) (r : Int) (h0 : ref07_place a0 a1 = some r) :
  Calls prog 73 #[.slice A_a0 a0.length c_a0, .string a1] w (fun e w' => e = .returned (iv r) ∧ Inv w0 Z w' A) := by
 have e4 := calls_intro (R := (fun e w' => e = .returned (iv r) ∧ Inv w0 Z w' A)) (w := w) (args := [.slice A_a0 a0.length c_a0, .string a1]) (fn := Go.Proofs.Tryd.f73) 19 Go.Proofs.Tryd.func73 (by rfl) Go.Proofs.Tryd.ntmps73 (by kernel_rfl)
 refine e4 ?_
 clear e4
 unfold ref07_place at h0
 refine cQ ?_
 refine cR [0] (by kernel_rfl) ?_
 refine oP (r := []) [0] (S' := [(0, .slice A_a0 a0.length c_a0), (1, .string a1)]) (by kernel_rfl) ?_
 refine oD ?_
 refine qT ?_
 refine cQ ?_
 refine cQ ?_
 refine cR [0] (by kernel_rfl) ?_
 refine oP (r := []) [0] (S' := [(0, .slice A_a0 a0.length c_a0), (1, .string a1), (5, iv 0)]) (by kernel_rfl) ?_
 refine oD ?_
 refine qT ?_
 obtain ⟨r1, h1, h0⟩ := bindS h0
 refine CodT.meet1 (fun a w => .inr () = r1 ∧ Fr 19 [] a ∧ Inv w0 Z w A) ?_ ?_
 ·
  refine CodT.block ?_
  refine (fun a ha => wp_loopN (fun k a w => ∃ (x1 : Int), ref07_place.l0 a0 a1 k x1 = some r1 ∧ Fr 19 [(0, .slice A_a0 a0.length c_a0), (1, .string a1), (5, iv x1)] a ∧ Inv w0 Z w A) ?_ FU a w ⟨0, h1, ha.keep [0, 1, 5] (by kernel_rfl), hI⟩)
  clear h1 hI
  rintro k a w ⟨x1, h1, ha, hI⟩
  rcases k with _ | k
  ·
   cases h1
  simp only [ref07_place.l0] at h1
  refine CodT.of ?_ ha
  refine cQ ?_
  refine cQ ?_
  refine cR [0, 1, 2, 3] (by kernel_rfl) ?_
  refine oP (r := []) [0, 1, 2, 3] (S' := [(0, .slice A_a0 a0.length c_a0), (1, .string a1), (5, iv x1), (9, .bool (decide (x1 < (a0.length : Int))))]) (by kernel_rfl) ?_
  refine oD ?_
  refine qT ?_
  by_cases hb2 : (decide (x1 < (a0.length : Int))) = true
  ·
   rw [if_pos hb2] at h1
   refine CodT.yes' (b := decide (x1 < (a0.length : Int))) (by kernel_rfl) hb2 ?_
   refine CodT.skip ?_
   refine qT ?_
   refine cQ ?_
   refine CodT.block ?_
   refine cQ ?_
   refine cR [0, 1, 2, 3, 4, 5] (by kernel_rfl) ?_
   refine oP (r := [2, 3, 4, 5]) [0, 1] (S' := [(0, .slice A_a0 a0.length c_a0), (1, .string a1), (5, iv x1), (12, .slice A_a0 a0.length c_a0), (13, iv x1)]) (by kernel_rfl) ?_
   obtain ⟨hg3, h1⟩ := guardS h1
   obtain ⟨g4, o8, hA5, hr6, hl7⟩ := RdS.get hr_a0 hg3.1 hg3.2
   refine oC (Does.yi (Yl.indexSlice (d := 14) (T := 25) (cc := c_a0) (k := .i64) (j := x1) (g := g4) (o := o8) (by kernel_rfl) Go.Proofs.Tryd.underlying25 ty9 hA5 hg3.1 hg3.2) hI ?_)
   refine oC (Does.yi (Yl.load (d := 15) (T := 9) (v := .string (gt a0 x1)) (by kernel_rfl) (ldR ty9 (v := .string (gt a0 x1)) 0 (fun w hC => hr6 w0 w _ hC) (by kernel_rfl))) hI ?_)
   refine oP (r := []) [4, 5] (S' := [(0, .slice A_a0 a0.length c_a0), (1, .string a1), (5, iv x1), (17, .bool (seq (gt a0 x1) a1))]) (by kernel_rfl) ?_
   refine oD ?_
   refine qT ?_
   by_cases hb9 : (seq (gt a0 x1) a1) = true
   ·
    rw [if_pos hb9] at h1
    refine CodT.yes' (b := seq (gt a0 x1) a1) (by kernel_rfl) hb9 ?_
    refine cQ ?_
    refine cR [0, 1] (by kernel_rfl) ?_
    refine oP (r := []) [0, 1] (S' := [(4, iv x1)]) (by kernel_rfl) ?_
    refine oD ?_
    refine qT ?_
    refine CodT.ret ?_
    refine Qn.block_ret ?_
    refine Qn.ret_then ?_
    refine Qn.ret_then ?_
    refine Qn.block_ret ?_
    refine Qn.ret_then ?_
    refine Qn.ret_then ?_
    have e := someS h1
    subst e
    try dsimp only at h0
    have e := someS h0
    subst e
    refine qK [4] (S' := [(4, iv x1)]) (by kernel_rfl) ?_
    exact post_ret (v := iv x1) (fun a ha => RunRes.run (vs := [iv x1]) (.tmp (t := 4) (by kernel_rfl) .nil) ha (by kernel_rfl)) ⟨rfl, hI⟩
   ·
    rw [if_neg hb9] at h1
    refine CodT.no' (b := seq (gt a0 x1) a1) (by kernel_rfl) (by simpa using hb9) ?_
    refine CodT.skip ?_
    refine Qn.block_normal ?_
    refine qT ?_
    refine cR [0, 1, 2] (by kernel_rfl) ?_
    refine oP (r := []) [0, 1, 2] (S' := [(0, .slice A_a0 a0.length c_a0), (1, .string a1), (5, iv (wi64 (x1 + 1)))]) (by kernel_rfl) ?_
    refine oD ?_
    exact Qn.thenJ fun a ha => ⟨k, Nat.lt_succ_self k, wi64 (x1 + 1), h1, ha.keep [0, 1, 5] (by kernel_rfl), hI⟩
  ·
   rw [if_neg hb2] at h1
   refine CodT.no' (b := decide (x1 < (a0.length : Int))) (by kernel_rfl) (by simpa using hb2) ?_
   refine CodT.exit ?_
   refine Qn.exit_then ?_
   refine Qn.exit_then ?_
   refine Qn.block ?_
   have e := someS h1
   subst e
   exact Qn.thenJ fun a ha => ⟨rfl, ha.keep [] (by kernel_rfl), hI⟩
 ·
  rintro a w ⟨rfl, ha, hI⟩
  try dsimp only at h0
  refine Qn.of ?_ ha
  refine qT ?_
  refine cQ ?_
  refine cR [0] (by kernel_rfl) ?_
  refine oP (r := []) [0] (S' := [(4, iv (-1))]) (by kernel_rfl) ?_
  refine oD ?_
  refine qT ?_
  refine CodT.ret ?_
  have e := someS h0
  subst e
  refine qK [4] (S' := [(4, iv (-1))]) (by kernel_rfl) ?_
  exact post_ret (v := iv (-1)) (fun a ha => RunRes.run (vs := [iv (-1)]) (.tmp (t := 4) (by kernel_rfl) .nil) ha (by kernel_rfl)) ⟨rfl, hI⟩
/-- cenotaph/cenotaphref07.Hold -/
theorem c54 (w0 w : World) (Z : Hp) (A : HP) (hI : Inv w0 Z w A) (hT : Tabs Z) (ud : Int) (ue : ByteArray) (ub : ByteArray) (uf : Bool) (ug : Int) (ua : Option Addr) (uh : Nat) (uc : (List ByteArray)) (ui : RdS Z cS 1 ua uh uc) (a1 : ByteArray) (r : (Int × ByteArray × ByteArray × Bool × Int × (List ByteArray) × Int)) (h0 : ref07_Hold ud ue ub uf ug uc a1 = some r) :
  Calls prog 54 #[.agg ([iv ud, .string ue, .string ub, .bool uf, iv ug, .slice ua uc.length uh] : LV).toArray, .string a1] w (fun e w' => ∃ (A1 : Option Addr) (c1 : Nat) (Z' : Hp), Z.le Z' ∧ e = .returned (.tuple #[.agg ([iv r.1, .string r.2.1, .string r.2.2.1, .bool r.2.2.2.1, iv r.2.2.2.2.1, .slice A1 r.2.2.2.2.2.1.length c1] : LV).toArray, iv r.2.2.2.2.2.2]) ∧ RdS Z' cS 1 A1 c1 r.2.2.2.2.2.1 ∧ Inv w0 Z' w' A) := by
 have e4 := calls_intro (R := (fun e w' => ∃ (A1 : Option Addr) (c1 : Nat) (Z' : Hp), Z.le Z' ∧ e = .returned (.tuple #[.agg ([iv r.1, .string r.2.1, .string r.2.2.1, .bool r.2.2.2.1, iv r.2.2.2.2.1, .slice A1 r.2.2.2.2.2.1.length c1] : LV).toArray, iv r.2.2.2.2.2.2]) ∧ RdS Z' cS 1 A1 c1 r.2.2.2.2.2.1 ∧ Inv w0 Z' w' A)) (w := w) (args := [.agg ([iv ud, .string ue, .string ub, .bool uf, iv ug, .slice ua uc.length uh] : LV).toArray, .string a1]) (fn := Go.Proofs.Tryd.f54) 63 Go.Proofs.Tryd.func54 (by rfl) Go.Proofs.Tryd.ntmps54 (by kernel_rfl)
 refine e4 ?_
 clear e4
 unfold ref07_Hold at h0
 refine cQ ?_
 refine cR [0, 1, 2] (by kernel_rfl) ?_
 refine oC (Does.boxL (d := 2) (T := 27) (v := .agg ([iv ud, .string ue, .string ub, .bool uf, iv ug, .slice ua uc.length uh] : LV).toArray) ([iv ud, .string ue, .string ub, .bool uf, iv ug, .slice ua uc.length uh] : LV) (by kernel_rfl) hI (by kernel_rfl) ?_)
 intro b1 w hI
 refine oC (Does.allocL (d := 4) (T := 27) ((([iv 0, .string (⟨#[]⟩ : ByteArray), .string (⟨#[]⟩ : ByteArray), .bool false, iv 0, .slice none 0 0] : LV))) (by kernel_rfl) ty27 hI (by kernel_rfl) ?_)
 intro b2 w hI
 refine oP (r := []) [2] (S' := [(1, .string a1), (2, pb b1), (4, pb b2)]) (by kernel_rfl) ?_
 refine oD ?_
 refine qT ?_
 refine cQ ?_
 refine cR [0, 1, 2] (by kernel_rfl) ?_
 refine oP (r := [1, 2]) [0] (S' := [(1, .string a1), (2, pb b1), (4, pb b2), (9, .string a1)]) (by kernel_rfl) ?_
 obtain ⟨y4, hc3, h0⟩ := bindS h0
 try dsimp only at h0
 refine oC (Does.call (d := some 10) (n := 72) (vs := [.string a1]) (by kernel_rfl) en72 (c72 w0 w _ _ hI hT a1 _ hc3) ?_)
 rintro e w ⟨rfl, hI⟩
 refine ⟨_, rfl, ?_⟩
 refine oP (r := []) [2] (S' := [(1, .string a1), (2, pb b1), (4, pb b2), (6, .bool y4)]) (by kernel_rfl) ?_
 refine oD ?_
 refine qT ?_
 refine cQ ?_
 refine cQ ?_
 refine cR [0, 1, 2] (by kernel_rfl) ?_
 refine oP (r := [1, 2]) [0] (S' := [(1, .string a1), (2, pb b1), (4, pb b2), (6, .bool y4), (11, .pointer (some ⟨b1, 3, none⟩))]) (by kernel_rfl) ?_
 refine oC (Does.yi (Yl.load (d := 12) (T := 4) (v := .bool uf) (by kernel_rfl) (ldB ty4 (l := ([iv ud, .string ue, .string ub, .bool uf, iv ug, .slice ua uc.length uh] : LV)) (o := 3) (v := .bool uf) (pick2 _ _ _) (by kernel_rfl))) hI ?_)
 refine oP (r := []) [2] (S' := [(1, .string a1), (2, pb b1), (4, pb b2), (6, .bool y4), (13, .bool (!uf))]) (by kernel_rfl) ?_
 refine oD ?_
 refine qT ?_
 by_cases hb5 : (!uf) = true
 ·
  rw [if_pos hb5] at h0
  refine CodT.yes' (b := !uf) (by kernel_rfl) hb5 ?_
  refine cQ ?_
  refine cR [0, 1, 2] (by kernel_rfl) ?_
  refine oC (Does.yi (Yl.load (d := 14) (T := 27) (v := .agg ([iv ud, .string ue, .string ub, .bool uf, iv ug, .slice ua uc.length uh] : LV).toArray) (by kernel_rfl) (ldBN ty27 (l := ([iv ud, .string ue, .string ub, .bool uf, iv ug, .slice ua uc.length uh] : LV)) (o := 0) (cs := ([iv ud, .string ue, .string ub, .bool uf, iv ug, .slice ua uc.length uh] : LV)) (pick2 _ _ _) (by kernel_rfl) (whole _ _ (by kernel_rfl)))) hI ?_)
  refine oC (dS (T := 27) (b := b2) (o := 0) (v := .agg ([iv ud, .string ue, .string ub, .bool uf, iv ug, .slice ua uc.length uh] : LV).toArray) (l := (([iv 0, .string (⟨#[]⟩ : ByteArray), .string (⟨#[]⟩ : ByteArray), .bool false, iv 0, .slice none 0 0] : LV))) (vs := ([iv ud, .string ue, .string ub, .bool uf, iv ug, .slice ua uc.length uh] : LV)) (L' := ([iv ud, .string ue, .string ub, .bool uf, iv ug, .slice ua uc.length uh] : LV)) (by kernel_rfl) ty27 hI (by kernel_rfl) (by kernel_rfl) (by kernel_rfl) (by kernel_rfl) (by kernel_rfl) ?_)
  intro w hI
  refine oP (r := []) [2] (S' := [(4, pb b2), (5, iv 6)]) (by kernel_rfl) ?_
  refine oD ?_
  refine qT ?_
  refine CodT.ret ?_
  refine Qn.ret_then ?_
  have hL6 := (ldBN ty27 (l := ([iv ud, .string ue, .string ub, .bool uf, iv ug, .slice ua uc.length uh] : LV)) (o := 0) (cs := ([iv ud, .string ue, .string ub, .bool uf, iv ug, .slice ua uc.length uh] : LV)) (ent_refl _) (by kernel_rfl) (whole _ _ (by kernel_rfl))) w hI
  have hI := hI.drop
  have hI := hI.drop
  have e := someS h0
  subst e
  refine qK [4, 5] (S' := [(4, pb b2), (5, iv 6)]) (by kernel_rfl) ?_
  exact post_ret (v := .tuple #[.agg ([iv ud, .string ue, .string ub, .bool uf, iv ug, .slice ua uc.length uh] : LV).toArray, iv 6]) (fun a ha => RunRes.run (vs := [.agg ([iv ud, .string ue, .string ub, .bool uf, iv ug, .slice ua uc.length uh] : LV).toArray, iv 6]) (.cell (t := 4) (T := 27) (ad := ⟨b2, 0, none⟩) (by kernel_rfl) hL6 (.tmp (t := 5) (by kernel_rfl) .nil)) ha (by kernel_rfl)) ⟨ua, uh, Z, Hp.le_refl _, rfl, ui, hI⟩
 ·
  rw [if_neg hb5] at h0
  refine CodT.no' (b := !uf) (by kernel_rfl) (by simpa using hb5) ?_
  refine CodT.skip ?_
  refine qT ?_
  refine cQ ?_
  refine cQ ?_
  refine cR [0, 1] (by kernel_rfl) ?_
  refine oP (r := []) [0, 1] (S' := [(1, .string a1), (2, pb b1), (4, pb b2), (16, .bool (!y4))]) (by kernel_rfl) ?_
  refine oD ?_
  refine qT ?_
  by_cases hb7 : (!y4) = true
  ·
   rw [if_pos hb7] at h0
   refine CodT.yes' (b := !y4) (by kernel_rfl) hb7 ?_
   refine cQ ?_
   refine cR [0, 1, 2] (by kernel_rfl) ?_
   refine oC (Does.yi (Yl.load (d := 17) (T := 27) (v := .agg ([iv ud, .string ue, .string ub, .bool uf, iv ug, .slice ua uc.length uh] : LV).toArray) (by kernel_rfl) (ldBN ty27 (l := ([iv ud, .string ue, .string ub, .bool uf, iv ug, .slice ua uc.length uh] : LV)) (o := 0) (cs := ([iv ud, .string ue, .string ub, .bool uf, iv ug, .slice ua uc.length uh] : LV)) (pick2 _ _ _) (by kernel_rfl) (whole _ _ (by kernel_rfl)))) hI ?_)
   refine oC (dS (T := 27) (b := b2) (o := 0) (v := .agg ([iv ud, .string ue, .string ub, .bool uf, iv ug, .slice ua uc.length uh] : LV).toArray) (l := (([iv 0, .string (⟨#[]⟩ : ByteArray), .string (⟨#[]⟩ : ByteArray), .bool false, iv 0, .slice none 0 0] : LV))) (vs := ([iv ud, .string ue, .string ub, .bool uf, iv ug, .slice ua uc.length uh] : LV)) (L' := ([iv ud, .string ue, .string ub, .bool uf, iv ug, .slice ua uc.length uh] : LV)) (by kernel_rfl) ty27 hI (by kernel_rfl) (by kernel_rfl) (by kernel_rfl) (by kernel_rfl) (by kernel_rfl) ?_)
   intro w hI
   refine oP (r := []) [2] (S' := [(4, pb b2), (5, iv 2)]) (by kernel_rfl) ?_
   refine oD ?_
   refine qT ?_
   refine CodT.ret ?_
   refine Qn.ret_then ?_
   have hL8 := (ldBN ty27 (l := ([iv ud, .string ue, .string ub, .bool uf, iv ug, .slice ua uc.length uh] : LV)) (o := 0) (cs := ([iv ud, .string ue, .string ub, .bool uf, iv ug, .slice ua uc.length uh] : LV)) (ent_refl _) (by kernel_rfl) (whole _ _ (by kernel_rfl))) w hI
   have hI := hI.drop
   have hI := hI.drop
   have e := someS h0
   subst e
   refine qK [4, 5] (S' := [(4, pb b2), (5, iv 2)]) (by kernel_rfl) ?_
   exact post_ret (v := .tuple #[.agg ([iv ud, .string ue, .string ub, .bool uf, iv ug, .slice ua uc.length uh] : LV).toArray, iv 2]) (fun a ha => RunRes.run (vs := [.agg ([iv ud, .string ue, .string ub, .bool uf, iv ug, .slice ua uc.length uh] : LV).toArray, iv 2]) (.cell (t := 4) (T := 27) (ad := ⟨b2, 0, none⟩) (by kernel_rfl) hL8 (.tmp (t := 5) (by kernel_rfl) .nil)) ha (by kernel_rfl)) ⟨ua, uh, Z, Hp.le_refl _, rfl, ui, hI⟩
  ·
   rw [if_neg hb7] at h0
   refine CodT.no' (b := !y4) (by kernel_rfl) (by simpa using hb7) ?_
   refine CodT.skip ?_
   refine qT ?_
   refine cQ ?_
   refine cQ ?_
   refine cR [0, 1, 2, 3, 4] (by kernel_rfl) ?_
   refine oP (r := [1, 2, 3, 4]) [0] (S' := [(1, .string a1), (2, pb b1), (4, pb b2), (18, .pointer (some ⟨b1, 5, none⟩))]) (by kernel_rfl) ?_
   refine oC (Does.yi (Yl.load (d := 19) (T := 25) (v := .slice ua uc.length uh) (by kernel_rfl) (ldB ty25 (l := ([iv ud, .string ue, .string ub, .bool uf, iv ug, .slice ua uc.length uh] : LV)) (o := 5) (v := .slice ua uc.length uh) (pick2 _ _ _) (by kernel_rfl))) hI ?_)
   refine oP (r := [3, 4]) [2] (S' := [(1, .string a1), (2, pb b1), (4, pb b2), (19, .slice ua uc.length uh), (20, .string a1)]) (by kernel_rfl) ?_
   obtain ⟨y10, hc9, h0⟩ := bindS h0
   try dsimp only at h0
   refine oC (Does.call (d := some 21) (n := 73) (vs := [.slice ua uc.length uh, .string a1]) (by kernel_rfl) en73 (c73 w0 w _ _ hI hT ua uh uc ui a1 _ hc9) ?_)
   rintro e w ⟨rfl, hI⟩
   refine ⟨_, rfl, ?_⟩
   refine oP (r := []) [4] (S' := [(1, .string a1), (2, pb b1), (4, pb b2), (22, .bool (decide (y10 ≥ 0)))]) (by kernel_rfl) ?_
   refine oD ?_
   refine qT ?_
   by_cases hb11 : (decide (y10 ≥ 0)) = true
   ·
    rw [if_pos hb11] at h0
    refine CodT.yes' (b := decide (y10 ≥ 0)) (by kernel_rfl) hb11 ?_
    refine cQ ?_
    refine cR [0, 1, 2] (by kernel_rfl) ?_
    refine oC (Does.yi (Yl.load (d := 23) (T := 27) (v := .agg ([iv ud, .string ue, .string ub, .bool uf, iv ug, .slice ua uc.length uh] : LV).toArray) (by kernel_rfl) (ldBN ty27 (l := ([iv ud, .string ue, .string ub, .bool uf, iv ug, .slice ua uc.length uh] : LV)) (o := 0) (cs := ([iv ud, .string ue, .string ub, .bool uf, iv ug, .slice ua uc.length uh] : LV)) (pick2 _ _ _) (by kernel_rfl) (whole _ _ (by kernel_rfl)))) hI ?_)
    refine oC (dS (T := 27) (b := b2) (o := 0) (v := .agg ([iv ud, .string ue, .string ub, .bool uf, iv ug, .slice ua uc.length uh] : LV).toArray) (l := (([iv 0, .string (⟨#[]⟩ : ByteArray), .string (⟨#[]⟩ : ByteArray), .bool false, iv 0, .slice none 0 0] : LV))) (vs := ([iv ud, .string ue, .string ub, .bool uf, iv ug, .slice ua uc.length uh] : LV)) (L' := ([iv ud, .string ue, .string ub, .bool uf, iv ug, .slice ua uc.length uh] : LV)) (by kernel_rfl) ty27 hI (by kernel_rfl) (by kernel_rfl) (by kernel_rfl) (by kernel_rfl) (by kernel_rfl) ?_)
    intro w hI
    refine oP (r := []) [2] (S' := [(4, pb b2), (5, iv 4)]) (by kernel_rfl) ?_
    refine oD ?_
    refine qT ?_
    refine CodT.ret ?_
    refine Qn.ret_then ?_
    have hL12 := (ldBN ty27 (l := ([iv ud, .string ue, .string ub, .bool uf, iv ug, .slice ua uc.length uh] : LV)) (o := 0) (cs := ([iv ud, .string ue, .string ub, .bool uf, iv ug, .slice ua uc.length uh] : LV)) (ent_refl _) (by kernel_rfl) (whole _ _ (by kernel_rfl))) w hI
    have hI := hI.drop
    have hI := hI.drop
    have e := someS h0
    subst e
    refine qK [4, 5] (S' := [(4, pb b2), (5, iv 4)]) (by kernel_rfl) ?_
    exact post_ret (v := .tuple #[.agg ([iv ud, .string ue, .string ub, .bool uf, iv ug, .slice ua uc.length uh] : LV).toArray, iv 4]) (fun a ha => RunRes.run (vs := [.agg ([iv ud, .string ue, .string ub, .bool uf, iv ug, .slice ua uc.length uh] : LV).toArray, iv 4]) (.cell (t := 4) (T := 27) (ad := ⟨b2, 0, none⟩) (by kernel_rfl) hL12 (.tmp (t := 5) (by kernel_rfl) .nil)) ha (by kernel_rfl)) ⟨ua, uh, Z, Hp.le_refl _, rfl, ui, hI⟩
   ·
    rw [if_neg hb11] at h0
    refine CodT.no' (b := decide (y10 ≥ 0)) (by kernel_rfl) (by simpa using hb11) ?_
    refine CodT.skip ?_
    refine qT ?_
    refine cQ ?_
    refine cQ ?_
    refine cR [0, 1, 2, 3] (by kernel_rfl) ?_
    refine oP (r := [1, 2, 3]) [0] (S' := [(1, .string a1), (2, pb b1), (4, pb b2), (24, .pointer (some ⟨b1, 5, none⟩))]) (by kernel_rfl) ?_
    refine oC (Does.yi (Yl.load (d := 25) (T := 25) (v := .slice ua uc.length uh) (by kernel_rfl) (ldB ty25 (l := ([iv ud, .string ue, .string ub, .bool uf, iv ug, .slice ua uc.length uh] : LV)) (o := 5) (v := .slice ua uc.length uh) (pick2 _ _ _) (by kernel_rfl))) hI ?_)
    refine oP (r := []) [2, 3] (S' := [(1, .string a1), (2, pb b1), (4, pb b2), (27, .bool (decide ((uc.length : Int) ≥ 4)))]) (by kernel_rfl) ?_
    refine oD ?_
    refine qT ?_
    by_cases hb13 : (decide ((uc.length : Int) ≥ 4)) = true
    ·
     rw [if_pos hb13] at h0
     refine CodT.yes' (b := decide ((uc.length : Int) ≥ 4)) (by kernel_rfl) hb13 ?_
     refine cQ ?_
     refine cR [0, 1, 2] (by kernel_rfl) ?_
     refine oC (Does.yi (Yl.load (d := 28) (T := 27) (v := .agg ([iv ud, .string ue, .string ub, .bool uf, iv ug, .slice ua uc.length uh] : LV).toArray) (by kernel_rfl) (ldBN ty27 (l := ([iv ud, .string ue, .string ub, .bool uf, iv ug, .slice ua uc.length uh] : LV)) (o := 0) (cs := ([iv ud, .string ue, .string ub, .bool uf, iv ug, .slice ua uc.length uh] : LV)) (pick2 _ _ _) (by kernel_rfl) (whole _ _ (by kernel_rfl)))) hI ?_)
     refine oC (dS (T := 27) (b := b2) (o := 0) (v := .agg ([iv ud, .string ue, .string ub, .bool uf, iv ug, .slice ua uc.length uh] : LV).toArray) (l := (([iv 0, .string (⟨#[]⟩ : ByteArray), .string (⟨#[]⟩ : ByteArray), .bool false, iv 0, .slice none 0 0] : LV))) (vs := ([iv ud, .string ue, .string ub, .bool uf, iv ug, .slice ua uc.length uh] : LV)) (L' := ([iv ud, .string ue, .string ub, .bool uf, iv ug, .slice ua uc.length uh] : LV)) (by kernel_rfl) ty27 hI (by kernel_rfl) (by kernel_rfl) (by kernel_rfl) (by kernel_rfl) (by kernel_rfl) ?_)
     intro w hI
     refine oP (r := []) [2] (S' := [(4, pb b2), (5, iv 10)]) (by kernel_rfl) ?_
     refine oD ?_
     refine qT ?_
     refine CodT.ret ?_
     refine Qn.ret_then ?_
     have hL14 := (ldBN ty27 (l := ([iv ud, .string ue, .string ub, .bool uf, iv ug, .slice ua uc.length uh] : LV)) (o := 0) (cs := ([iv ud, .string ue, .string ub, .bool uf, iv ug, .slice ua uc.length uh] : LV)) (ent_refl _) (by kernel_rfl) (whole _ _ (by kernel_rfl))) w hI
     have hI := hI.drop
     have hI := hI.drop
     have e := someS h0
     subst e
     refine qK [4, 5] (S' := [(4, pb b2), (5, iv 10)]) (by kernel_rfl) ?_
     exact post_ret (v := .tuple #[.agg ([iv ud, .string ue, .string ub, .bool uf, iv ug, .slice ua uc.length uh] : LV).toArray, iv 10]) (fun a ha => RunRes.run (vs := [.agg ([iv ud, .string ue, .string ub, .bool uf, iv ug, .slice ua uc.length uh] : LV).toArray, iv 10]) (.cell (t := 4) (T := 27) (ad := ⟨b2, 0, none⟩) (by kernel_rfl) hL14 (.tmp (t := 5) (by kernel_rfl) .nil)) ha (by kernel_rfl)) ⟨ua, uh, Z, Hp.le_refl _, rfl, ui, hI⟩
    ·
     rw [if_neg hb13] at h0
     refine CodT.no' (b := decide ((uc.length : Int) ≥ 4)) (by kernel_rfl) (by simpa using hb13) ?_
     refine CodT.skip ?_
     refine qT ?_
     refine cQ ?_
     refine cR [0] (by kernel_rfl) ?_
     refine oP (r := []) [0] (S' := [(1, .string a1), (2, pb b1), (4, pb b2), (7, iv 0)]) (by kernel_rfl) ?_
     refine oD ?_
     refine qT ?_
     obtain ⟨r1, h1, h0⟩ := bindS h0
     refine CodT.meet (fun a w => ∃ (x15 : Int), x15 = r1 ∧ Fr 63 [(1, .string a1), (2, pb b1), (4, pb b2), (7, iv x15)] a ∧ Inv w0 Z w (star (pt b2 (.cells ((([iv 0, .string (⟨#[]⟩ : ByteArray), .string (⟨#[]⟩ : ByteArray), .bool false, iv 0, .slice none 0 0] : LV))).toArray 27 (0, 0))) (star (pt b1 (.cells ([iv ud, .string ue, .string ub, .bool uf, iv ug, .slice ua uc.length uh] : LV).toArray 27 (0, 0))) A))) ?_ ?_
     ·
      refine CodT.block ?_
      refine (fun a ha => wp_loopN (fun k a w => ∃ (x16 : Int), ref07_Hold.l0 uc a1 k x16 = some r1 ∧ Fr 63 [(1, .string a1), (2, pb b1), (4, pb b2), (7, iv x16)] a ∧ Inv w0 Z w (star (pt b2 (.cells ((([iv 0, .string (⟨#[]⟩ : ByteArray), .string (⟨#[]⟩ : ByteArray), .bool false, iv 0, .slice none 0 0] : LV))).toArray 27 (0, 0))) (star (pt b1 (.cells ([iv ud, .string ue, .string ub, .bool uf, iv ug, .slice ua uc.length uh] : LV).toArray 27 (0, 0))) A))) ?_ FU a w ⟨0, h1, ha.keep [1, 2, 4, 7] (by kernel_rfl), hI⟩)
      clear h1 hI
      rintro k a w ⟨x16, h1, ha, hI⟩
      rcases k with _ | k
      ·
       cases h1
      simp only [ref07_Hold.l0] at h1
      refine CodT.of ?_ ha
      refine cQ ?_
      refine cQ ?_
      refine cR [0, 1, 2, 3, 4] (by kernel_rfl) ?_
      refine oP (r := [2, 3, 4]) [0, 1] (S' := [(1, .string a1), (2, pb b1), (4, pb b2), (7, iv x16), (29, iv x16), (30, .pointer (some ⟨b1, 5, none⟩))]) (by kernel_rfl) ?_
      refine oC (Does.yi (Yl.load (d := 31) (T := 25) (v := .slice ua uc.length uh) (by kernel_rfl) (ldB ty25 (l := ([iv ud, .string ue, .string ub, .bool uf, iv ug, .slice ua uc.length uh] : LV)) (o := 5) (v := .slice ua uc.length uh) (pick2 _ _ _) (by kernel_rfl))) hI ?_)
      refine oP (r := []) [3, 4] (S' := [(1, .string a1), (2, pb b1), (4, pb b2), (7, iv x16), (33, .bool (decide (x16 < (uc.length : Int))))]) (by kernel_rfl) ?_
      refine oD ?_
      refine qT ?_
      by_cases hb17 : (decide (x16 < (uc.length : Int))) = true
      ·
       rw [if_pos hb17] at h1
       refine CodT.yes' (b := decide (x16 < (uc.length : Int))) (by kernel_rfl) hb17 ?_
       refine CodT.skip ?_
       refine qT ?_
       refine CodT.block ?_
       refine cQ ?_
       refine cQ ?_
       refine cR [0, 1, 2, 3, 4, 5, 6, 7] (by kernel_rfl) ?_
       refine oP (r := [1, 2, 3, 4, 5, 6, 7]) [0] (S' := [(1, .string a1), (2, pb b1), (4, pb b2), (7, iv x16), (34, .pointer (some ⟨b1, 5, none⟩))]) (by kernel_rfl) ?_
       refine oC (Does.yi (Yl.load (d := 35) (T := 25) (v := .slice ua uc.length uh) (by kernel_rfl) (ldB ty25 (l := ([iv ud, .string ue, .string ub, .bool uf, iv ug, .slice ua uc.length uh] : LV)) (o := 5) (v := .slice ua uc.length uh) (pick2 _ _ _) (by kernel_rfl))) hI ?_)
       refine oP (r := [3, 4, 5, 6, 7]) [2] (S' := [(1, .string a1), (2, pb b1), (4, pb b2), (7, iv x16), (35, .slice ua uc.length uh), (36, iv x16)]) (by kernel_rfl) ?_
       obtain ⟨hg18, h1⟩ := guardS h1
       obtain ⟨g19, o23, hA20, hr21, hl22⟩ := RdS.get ui hg18.1 hg18.2
       refine oC (Does.yi (Yl.indexSlice (d := 37) (T := 25) (cc := uh) (k := .i64) (j := x16) (g := g19) (o := o23) (by kernel_rfl) Go.Proofs.Tryd.underlying25 ty9 hA20 hg18.1 hg18.2) hI ?_)
       refine oC (Does.yi (Yl.load (d := 38) (T := 9) (v := .string (gt uc x16)) (by kernel_rfl) (ldR ty9 (v := .string (gt uc x16)) 0 (fun w hC => hr21 w0 w _ hC) (by kernel_rfl))) hI ?_)
       refine oP (r := [6, 7]) [5] (S' := [(1, .string a1), (2, pb b1), (4, pb b2), (7, iv x16), (38, .string (gt uc x16)), (39, .string a1)]) (by kernel_rfl) ?_
       obtain ⟨y25, hc24, h1⟩ := bindS h1
       try dsimp only at h1
       refine oC (Does.call (d := some 40) (n := 25) (vs := [.string (gt uc x16), .string a1]) (by kernel_rfl) en25 (c25 w0 w _ _ hI hT (gt uc x16) a1 _ hc24) ?_)
       rintro e w ⟨rfl, hI⟩
       refine ⟨_, rfl, ?_⟩
       refine oP (r := []) [7] (S' := [(1, .string a1), (2, pb b1), (4, pb b2), (7, iv x16), (41, .bool (!y25))]) (by kernel_rfl) ?_
       refine oD ?_
       refine qT ?_
       by_cases hb26 : (!y25) = true
       ·
        rw [if_pos hb26] at h1
        refine CodT.yes' (b := !y25) (by kernel_rfl) hb26 ?_
        refine CodT.exit ?_
        refine Qn.exit_then ?_
        refine Qn.block_other (by decide) ?_
        refine Qn.exit_then ?_
        refine Qn.block ?_
        have e := someS h1
        subst e
        exact Qn.thenJ fun a ha => ⟨x16, rfl, ha.keep [1, 2, 4, 7] (by kernel_rfl), hI⟩
       ·
        rw [if_neg hb26] at h1
        refine CodT.no' (b := !y25) (by kernel_rfl) (by simpa using hb26) ?_
        refine CodT.skip ?_
        refine qT ?_
        refine cR [0, 1, 2] (by kernel_rfl) ?_
        refine oP (r := []) [0, 1, 2] (S' := [(1, .string a1), (2, pb b1), (4, pb b2), (7, iv (wi64 (x16 + 1)))]) (by kernel_rfl) ?_
        refine oD ?_
        refine Qn.block_normal ?_
        exact Qn.thenJ fun a ha => ⟨k, Nat.lt_succ_self k, wi64 (x16 + 1), h1, ha.keep [1, 2, 4, 7] (by kernel_rfl), hI⟩
      ·
       rw [if_neg hb17] at h1
       refine CodT.no' (b := decide (x16 < (uc.length : Int))) (by kernel_rfl) (by simpa using hb17) ?_
       refine CodT.exit ?_
       refine Qn.exit_then ?_
       refine Qn.exit_then ?_
       refine Qn.block ?_
       have e := someS h1
       subst e
       exact Qn.thenJ fun a ha => ⟨x16, rfl, ha.keep [1, 2, 4, 7] (by kernel_rfl), hI⟩
     ·
      rintro a w ⟨x15, rfl, ha, hI⟩
      try dsimp only at h0
      refine CodT.of ?_ ha
      refine cQ ?_
      refine cR [0] (by kernel_rfl) ?_
      refine oP (r := []) [0] (S' := [(1, .string a1), (2, pb b1), (4, pb b2), (7, iv x15), (8, .slice none 0 0)]) (by kernel_rfl) ?_
      refine oD ?_
      refine qT ?_
      refine cQ ?_
      refine cR [0, 1, 2, 3, 4, 5, 6] (by kernel_rfl) ?_
      refine oP (r := [2, 3, 4, 5, 6]) [0, 1] (S' := [(1, .string a1), (2, pb b1), (4, pb b2), (7, iv x15), (44, .slice none 0 0), (45, .pointer (some ⟨b1, 5, none⟩))]) (by kernel_rfl) ?_
      refine oC (Does.yi (Yl.load (d := 46) (T := 25) (v := .slice ua uc.length uh) (by kernel_rfl) (ldB ty25 (l := ([iv ud, .string ue, .string ub, .bool uf, iv ug, .slice ua uc.length uh] : LV)) (o := 5) (v := .slice ua uc.length uh) (pick2 _ _ _) (by kernel_rfl))) hI ?_)
      refine oP (r := [4, 5, 6]) [3] (S' := [(1, .string a1), (2, pb b1), (4, pb b2), (7, iv x15), (44, .slice none 0 0), (46, .slice ua uc.length uh), (47, iv x15)]) (by kernel_rfl) ?_
      obtain ⟨hg27, h0⟩ := guardS h0
      have hf33 := ui
      have hr30 := RdS.sub hf33 hg27
      obtain ⟨A28, hA31⟩ : ∃ x, subA ua uh 0 1 = x := ⟨_, rfl⟩
      obtain ⟨cp29, hc32⟩ : ∃ x, uh - (0 : Int).toNat = x := ⟨_, rfl⟩
      rw [hA31, hc32] at hr30
      refine oC (Does.yi (Yl.sub (lo := none) (hi := (some (iv x15))) (d := 48) (T := 25) (a := 0) (b := x15) (by kernel_rfl) Go.Proofs.Tryd.underlying25 ty9 (.inr ⟨rfl, rfl⟩) (.inl ⟨_, rfl⟩) hg27 hf33.1 (sub_length _ hg27) hA31 hc32) hI ?_)
      have hI := ownS_nil (α := ByteArray) hI 9 cS 1
      obtain ⟨hg34, h0⟩ := guardS h0
      refine oC (Does.append (d := 49) (t := 25) (tx := 25) (ty := 25) (ys := ([] : List ByteArray)) (zs := sub uc 0 x15) (x := .slice A28 ((sub uc 0 x15).length) cp29) (by kernel_rfl) Go.Proofs.Tryd.underlying25 ty9 (by kernel_rfl) hI (src_rd Go.Proofs.Tryd.underlying25 hI hr30 (one_flat _ (fun _ => rfl))) hr30.2.2.1 (by unfold LIM at hg34; omega) hg34 ?_)
      intro A35 cp36 w hI
      refine oP (r := []) [6] (S' := [(1, .string a1), (2, pb b1), (4, pb b2), (7, iv x15), (8, .slice A35 ((([] : List ByteArray) ++ (sub uc 0 x15)).length) cp36)]) (by kernel_rfl) ?_
      refine oD ?_
      refine qT ?_
      refine cQ ?_
      refine cR [0, 1, 2, 3, 4] (by kernel_rfl) ?_
      refine oP (r := [2, 3, 4]) [0, 1] (S' := [(2, pb b1), (4, pb b2), (7, iv x15), (50, .slice A35 ((([] : List ByteArray) ++ (sub uc 0 x15)).length) cp36), (51, .string a1)]) (by kernel_rfl) ?_
      refine oC (Does.buildSlice (en := cS) (d := 52) (n := 1) (T := 25) (ps := [(0, .string a1)]) ([a1] : List ByteArray) (by kernel_rfl) Go.Proofs.Tryd.underlying25 ty9 (by kernel_rfl) (by kernel_rfl) (by kernel_rfl) (by kernel_rfl) (len_all (fun _ => rfl)) hI ?_)
      intro b37 w hI
      obtain ⟨hg38, h0⟩ := guardS h0
      have hI := hI.mono (pick2 _ _ _)
      refine oC (Does.append (d := 53) (t := 25) (tx := 25) (ty := 25) (ys := ([] : List ByteArray) ++ (sub uc 0 x15)) (zs := ([a1] : List ByteArray)) (x := .slice (some ⟨b37, 0, none⟩) (([a1] : List ByteArray).length) 1) (by kernel_rfl) Go.Proofs.Tryd.underlying25 ty9 (by kernel_rfl) hI (src_own Go.Proofs.Tryd.underlying25 (hI.mono (pick2 _ _ _)) (one_flat _ (fun _ => rfl))) (ownS_facts (hI.mono (pick2 _ _ _))).2.2 (by unfold LIM at hg38; omega) hg38 ?_)
      intro A39 cp40 w hI
      refine oP (r := []) [4] (S' := [(2, pb b1), (4, pb b2), (7, iv x15), (8, .slice A39 (((([] : List ByteArray) ++ (sub uc 0 x15)) ++ ([a1] : List ByteArray)).length) cp40)]) (by kernel_rfl) ?_
      refine oD ?_
      refine qT ?_
      refine cQ ?_
      refine cR [0, 1, 2, 3, 4, 5, 6] (by kernel_rfl) ?_
      refine oP (r := [2, 3, 4, 5, 6]) [0, 1] (S' := [(2, pb b1), (4, pb b2), (7, iv x15), (54, .slice A39 (((([] : List ByteArray) ++ (sub uc 0 x15)) ++ ([a1] : List ByteArray)).length) cp40), (55, .pointer (some ⟨b1, 5, none⟩))]) (by kernel_rfl) ?_
      refine oC (Does.yi (Yl.load (d := 56) (T := 25) (v := .slice ua uc.length uh) (by kernel_rfl) (ldB ty25 (l := ([iv ud, .string ue, .string ub, .bool uf, iv ug, .slice ua uc.length uh] : LV)) (o := 5) (v := .slice ua uc.length uh) (pick4 _ _ _ _ _) (by kernel_rfl))) hI ?_)
      refine oP (r := [4, 5, 6]) [3] (S' := [(2, pb b1), (4, pb b2), (54, .slice A39 (((([] : List ByteArray) ++ (sub uc 0 x15)) ++ ([a1] : List ByteArray)).length) cp40), (56, .slice ua uc.length uh), (57, iv x15)]) (by kernel_rfl) ?_
      obtain ⟨hg41, h0⟩ := guardS h0
      have hf47 := ui
      have hr44 := RdS.sub hf47 hg41
      obtain ⟨A42, hA45⟩ : ∃ x, subA ua uh x15 1 = x := ⟨_, rfl⟩
      obtain ⟨cp43, hc46⟩ : ∃ x, uh - (x15 : Int).toNat = x := ⟨_, rfl⟩
      rw [hA45, hc46] at hr44
      refine oC (Does.yi (Yl.sub (lo := (some (iv x15))) (hi := none) (d := 58) (T := 25) (a := x15) (b := (uc.length : Int)) (by kernel_rfl) Go.Proofs.Tryd.underlying25 ty9 (.inl ⟨_, rfl⟩) (.inr ⟨rfl, rfl⟩) hg41 hf47.1 (sub_length _ hg41) hA45 hc46) hI ?_)
      obtain ⟨hg48, h0⟩ := guardS h0
      refine oC (Does.append (d := 59) (t := 25) (tx := 25) (ty := 25) (ys := (([] : List ByteArray) ++ (sub uc 0 x15)) ++ ([a1] : List ByteArray)) (zs := sub uc x15 (uc.length : Int)) (x := .slice A42 ((sub uc x15 (uc.length : Int)).length) cp43) (by kernel_rfl) Go.Proofs.Tryd.underlying25 ty9 (by kernel_rfl) hI (src_rd Go.Proofs.Tryd.underlying25 hI hr44 (one_flat _ (fun _ => rfl))) hr44.2.2.1 (by unfold LIM at hg48; omega) hg48 ?_)
      intro A49 cp50 w hI
      refine oP (r := []) [6] (S' := [(2, pb b1), (4, pb b2), (8, .slice A49 ((((([] : List ByteArray) ++ (sub uc 0 x15)) ++ ([a1] : List ByteArray)) ++ (sub uc x15 (uc.length : Int))).length) cp50)]) (by kernel_rfl) ?_
      refine oD ?_
      refine qT ?_
      refine cQ ?_
      refine cR [0, 1, 2] (by kernel_rfl) ?_
      refine oP (r := [2]) [0, 1] (S' := [(2, pb b1), (4, pb b2), (60, .slice A49 ((((([] : List ByteArray) ++ (sub uc 0 x15)) ++ ([a1] : List ByteArray)) ++ (sub uc x15 (uc.length : Int))).length) cp50), (61, .pointer (some ⟨b1, 5, none⟩))]) (by kernel_rfl) ?_
      have hI := hI.mono (pick4 _ _ _ _ _)
      refine oC (dS (T := 25) (b := b1) (o := 5) (v := .slice A49 ((((([] : List ByteArray) ++ (sub uc 0 x15)) ++ ([a1] : List ByteArray)) ++ (sub uc x15 (uc.length : Int))).length) cp50) (l := ([iv ud, .string ue, .string ub, .bool uf, iv ug, .slice ua uc.length uh] : LV)) (vs := ([.slice A49 ((((([] : List ByteArray) ++ (sub uc 0 x15)) ++ ([a1] : List ByteArray)) ++ (sub uc x15 (uc.length : Int))).length) cp50] : LV)) (L' := (([iv ud, .string ue, .string ub, .bool uf, iv ug, .slice A49 ((((([] : List ByteArray) ++ (sub uc 0 x15)) ++ ([a1] : List ByteArray)) ++ (sub uc x15 (uc.length : Int))).length) cp50] : LV))) (by kernel_rfl) ty25 hI (by kernel_rfl) (by kernel_rfl) (by kernel_rfl) (by kernel_rfl) (by kernel_rfl) ?_)
      intro w hI
      refine oD ?_
      refine qT ?_
      refine cQ ?_
      refine cR [0, 1, 2] (by kernel_rfl) ?_
      refine oC (Does.yi (Yl.load (d := 62) (T := 27) (v := .agg ((([iv ud, .string ue, .string ub, .bool uf, iv ug, .slice A49 ((((([] : List ByteArray) ++ (sub uc 0 x15)) ++ ([a1] : List ByteArray)) ++ (sub uc x15 (uc.length : Int))).length) cp50] : LV))).toArray) (by kernel_rfl) (ldBN ty27 (l := (([iv ud, .string ue, .string ub, .bool uf, iv ug, .slice A49 ((((([] : List ByteArray) ++ (sub uc 0 x15)) ++ ([a1] : List ByteArray)) ++ (sub uc x15 (uc.length : Int))).length) cp50] : LV))) (o := 0) (cs := (([iv ud, .string ue, .string ub, .bool uf, iv ug, .slice A49 ((((([] : List ByteArray) ++ (sub uc 0 x15)) ++ ([a1] : List ByteArray)) ++ (sub uc x15 (uc.length : Int))).length) cp50] : LV))) (ent_refl _) (by kernel_rfl) (whole _ _ (by kernel_rfl)))) hI ?_)
      have hI := hI.mono (pick4 _ _ _ _ _)
      refine oC (dS (T := 27) (b := b2) (o := 0) (v := .agg ((([iv ud, .string ue, .string ub, .bool uf, iv ug, .slice A49 ((((([] : List ByteArray) ++ (sub uc 0 x15)) ++ ([a1] : List ByteArray)) ++ (sub uc x15 (uc.length : Int))).length) cp50] : LV))).toArray) (l := (([iv 0, .string (⟨#[]⟩ : ByteArray), .string (⟨#[]⟩ : ByteArray), .bool false, iv 0, .slice none 0 0] : LV))) (vs := (([iv ud, .string ue, .string ub, .bool uf, iv ug, .slice A49 ((((([] : List ByteArray) ++ (sub uc 0 x15)) ++ ([a1] : List ByteArray)) ++ (sub uc x15 (uc.length : Int))).length) cp50] : LV))) (L' := (([iv ud, .string ue, .string ub, .bool uf, iv ug, .slice A49 ((((([] : List ByteArray) ++ (sub uc 0 x15)) ++ ([a1] : List ByteArray)) ++ (sub uc x15 (uc.length : Int))).length) cp50] : LV))) (by kernel_rfl) ty27 hI (by kernel_rfl) (by kernel_rfl) (by kernel_rfl) (by kernel_rfl) (by kernel_rfl) ?_)
      intro w hI
      refine oP (r := []) [2] (S' := [(4, pb b2), (5, iv 0)]) (by kernel_rfl) ?_
      refine oD ?_
      refine qT ?_
      refine CodT.ret ?_
      have hI := hI.mono (pick3 _ _ _ _)
      obtain ⟨Z51, hle52, hr53, hI⟩ := ownS_freeze hI
      have hL54 := (ldBN ty27 (l := (([iv ud, .string ue, .string ub, .bool uf, iv ug, .slice A49 ((((([] : List ByteArray) ++ (sub uc 0 x15)) ++ ([a1] : List ByteArray)) ++ (sub uc x15 (uc.length : Int))).length) cp50] : LV))) (o := 0) (cs := (([iv ud, .string ue, .string ub, .bool uf, iv ug, .slice A49 ((((([] : List ByteArray) ++ (sub uc 0 x15)) ++ ([a1] : List ByteArray)) ++ (sub uc x15 (uc.length : Int))).length) cp50] : LV))) (ent_refl _) (by kernel_rfl) (whole _ _ (by kernel_rfl))) w hI
      have hI := hI.drop
      have hI := hI.drop
      have hI := hI.drop
      have e := someS h0
      subst e
      refine qK [4, 5] (S' := [(4, pb b2), (5, iv 0)]) (by kernel_rfl) ?_
      exact post_ret (v := .tuple #[.agg ((([iv ud, .string ue, .string ub, .bool uf, iv ug, .slice A49 ((((([] : List ByteArray) ++ (sub uc 0 x15)) ++ ([a1] : List ByteArray)) ++ (sub uc x15 (uc.length : Int))).length) cp50] : LV))).toArray, iv 0]) (fun a ha => RunRes.run (vs := [.agg ((([iv ud, .string ue, .string ub, .bool uf, iv ug, .slice A49 ((((([] : List ByteArray) ++ (sub uc 0 x15)) ++ ([a1] : List ByteArray)) ++ (sub uc x15 (uc.length : Int))).length) cp50] : LV))).toArray, iv 0]) (.cell (t := 4) (T := 27) (ad := ⟨b2, 0, none⟩) (by kernel_rfl) hL54 (.tmp (t := 5) (by kernel_rfl) .nil)) ha (by kernel_rfl)) ⟨A49, cp50, Z51, hle52, rfl, hr53, hI⟩
/-- cenotaph/cenotaphref07.Release -/
theorem c55 (w0 w : World) (Z : Hp) (A : HP) (hI : Inv w0 Z w A) (hT : Tabs Z) (ud : Int) (ue : ByteArray) (ub : ByteArray) (uf : Bool) (ug : Int) (ua : Option Addr) (uh : Nat) (uc : (List ByteArray)) (ui : RdS Z cS 1 ua uh uc) (a1 : ByteArray) (r : (Int × ByteArray × ByteArray × Bool × Int × (List ByteArray) × Int)) (h0 : ref07_Release ud ue ub uf ug uc a1 = some r) :
  Calls prog 55 #[.agg ([iv ud, .string ue, .string ub, .bool uf, iv ug, .slice ua uc.length uh] : LV).toArray, .string a1] w (fun e w' => ∃ (A1 : Option Addr) (c1 : Nat) (Z' : Hp), Z.le Z' ∧ e = .returned (.tuple #[.agg ([iv r.1, .string r.2.1, .string r.2.2.1, .bool r.2.2.2.1, iv r.2.2.2.2.1, .slice A1 r.2.2.2.2.2.1.length c1] : LV).toArray, iv r.2.2.2.2.2.2]) ∧ RdS Z' cS 1 A1 c1 r.2.2.2.2.2.1 ∧ Inv w0 Z' w' A) := by
 have e4 := calls_intro (R := (fun e w' => ∃ (A1 : Option Addr) (c1 : Nat) (Z' : Hp), Z.le Z' ∧ e = .returned (.tuple #[.agg ([iv r.1, .string r.2.1, .string r.2.2.1, .bool r.2.2.2.1, iv r.2.2.2.2.1, .slice A1 r.2.2.2.2.2.1.length c1] : LV).toArray, iv r.2.2.2.2.2.2]) ∧ RdS Z' cS 1 A1 c1 r.2.2.2.2.2.1 ∧ Inv w0 Z' w' A)) (w := w) (args := [.agg ([iv ud, .string ue, .string ub, .bool uf, iv ug, .slice ua uc.length uh] : LV).toArray, .string a1]) (fn := Go.Proofs.Tryd.f55) 31 Go.Proofs.Tryd.func55 (by rfl) Go.Proofs.Tryd.ntmps55 (by kernel_rfl)
 refine e4 ?_
 clear e4
 unfold ref07_Release at h0
 refine cQ ?_
 refine cR [0, 1, 2] (by kernel_rfl) ?_
 refine oC (Does.boxL (d := 2) (T := 27) (v := .agg ([iv ud, .string ue, .string ub, .bool uf, iv ug, .slice ua uc.length uh] : LV).toArray) ([iv ud, .string ue, .string ub, .bool uf, iv ug, .slice ua uc.length uh] : LV) (by kernel_rfl) hI (by kernel_rfl) ?_)
 intro b1 w hI
 refine oC (Does.allocL (d := 4) (T := 27) ((([iv 0, .string (⟨#[]⟩ : ByteArray), .string (⟨#[]⟩ : ByteArray), .bool false, iv 0, .slice none 0 0] : LV))) (by kernel_rfl) ty27 hI (by kernel_rfl) ?_)
 intro b2 w hI
 refine oP (r := []) [2] (S' := [(1, .string a1), (2, pb b1), (4, pb b2)]) (by kernel_rfl) ?_
 refine oD ?_
 refine qT ?_
 refine cQ ?_
 refine cR [0, 1, 2, 3, 4] (by kernel_rfl) ?_
 refine oP (r := [1, 2, 3, 4]) [0] (S' := [(1, .string a1), (2, pb b1), (4, pb b2), (8, .pointer (some ⟨b1, 5, none⟩))]) (by kernel_rfl) ?_
 refine oC (Does.yi (Yl.load (d := 9) (T := 25) (v := .slice ua uc.length uh) (by kernel_rfl) (ldB ty25 (l := ([iv ud, .string ue, .string ub, .bool uf, iv ug, .slice ua uc.length uh] : LV)) (o := 5) (v := .slice ua uc.length uh) (pick2 _ _ _) (by kernel_rfl))) hI ?_)
 refine oP (r := [3, 4]) [2] (S' := [(2, pb b1), (4, pb b2), (9, .slice ua uc.length uh), (10, .string a1)]) (by kernel_rfl) ?_
 obtain ⟨y4, hc3, h0⟩ := bindS h0
 try dsimp only at h0
 refine oC (Does.call (d := some 11) (n := 73) (vs := [.slice ua uc.length uh, .string a1]) (by kernel_rfl) en73 (c73 w0 w _ _ hI hT ua uh uc ui a1 _ hc3) ?_)
 rintro e w ⟨rfl, hI⟩
 refine ⟨_, rfl, ?_⟩
 refine oP (r := []) [4] (S' := [(2, pb b1), (4, pb b2), (6, iv y4)]) (by kernel_rfl) ?_
 refine oD ?_
 refine qT ?_
 refine cQ ?_
 refine cQ ?_
 refine cR [0, 1] (by kernel_rfl) ?_
 refine oP (r := []) [0, 1] (S' := [(2, pb b1), (4, pb b2), (6, iv y4), (13, .bool (decide (y4 < 0)))]) (by kernel_rfl) ?_
 refine oD ?_
 refine qT ?_
 by_cases hb5 : (decide (y4 < 0)) = true
 ·
  rw [if_pos hb5] at h0
  refine CodT.yes' (b := decide (y4 < 0)) (by kernel_rfl) hb5 ?_
  refine cQ ?_
  refine cR [0, 1, 2] (by kernel_rfl) ?_
  refine oC (Does.yi (Yl.load (d := 14) (T := 27) (v := .agg ([iv ud, .string ue, .string ub, .bool uf, iv ug, .slice ua uc.length uh] : LV).toArray) (by kernel_rfl) (ldBN ty27 (l := ([iv ud, .string ue, .string ub, .bool uf, iv ug, .slice ua uc.length uh] : LV)) (o := 0) (cs := ([iv ud, .string ue, .string ub, .bool uf, iv ug, .slice ua uc.length uh] : LV)) (pick2 _ _ _) (by kernel_rfl) (whole _ _ (by kernel_rfl)))) hI ?_)
  refine oC (dS (T := 27) (b := b2) (o := 0) (v := .agg ([iv ud, .string ue, .string ub, .bool uf, iv ug, .slice ua uc.length uh] : LV).toArray) (l := (([iv 0, .string (⟨#[]⟩ : ByteArray), .string (⟨#[]⟩ : ByteArray), .bool false, iv 0, .slice none 0 0] : LV))) (vs := ([iv ud, .string ue, .string ub, .bool uf, iv ug, .slice ua uc.length uh] : LV)) (L' := ([iv ud, .string ue, .string ub, .bool uf, iv ug, .slice ua uc.length uh] : LV)) (by kernel_rfl) ty27 hI (by kernel_rfl) (by kernel_rfl) (by kernel_rfl) (by kernel_rfl) (by kernel_rfl) ?_)
  intro w hI
  refine oP (r := []) [2] (S' := [(4, pb b2), (5, iv 3)]) (by kernel_rfl) ?_
  refine oD ?_
  refine qT ?_
  refine CodT.ret ?_
  refine Qn.ret_then ?_
  have hL6 := (ldBN ty27 (l := ([iv ud, .string ue, .string ub, .bool uf, iv ug, .slice ua uc.length uh] : LV)) (o := 0) (cs := ([iv ud, .string ue, .string ub, .bool uf, iv ug, .slice ua uc.length uh] : LV)) (ent_refl _) (by kernel_rfl) (whole _ _ (by kernel_rfl))) w hI
  have hI := hI.drop
  have hI := hI.drop
  have e := someS h0
  subst e
  refine qK [4, 5] (S' := [(4, pb b2), (5, iv 3)]) (by kernel_rfl) ?_
  exact post_ret (v := .tuple #[.agg ([iv ud, .string ue, .string ub, .bool uf, iv ug, .slice ua uc.length uh] : LV).toArray, iv 3]) (fun a ha => RunRes.run (vs := [.agg ([iv ud, .string ue, .string ub, .bool uf, iv ug, .slice ua uc.length uh] : LV).toArray, iv 3]) (.cell (t := 4) (T := 27) (ad := ⟨b2, 0, none⟩) (by kernel_rfl) hL6 (.tmp (t := 5) (by kernel_rfl) .nil)) ha (by kernel_rfl)) ⟨ua, uh, Z, Hp.le_refl _, rfl, ui, hI⟩
 ·
  rw [if_neg hb5] at h0
  refine CodT.no' (b := decide (y4 < 0)) (by kernel_rfl) (by simpa using hb5) ?_
  refine CodT.skip ?_
  refine qT ?_
  refine cQ ?_
  refine cR [0] (by kernel_rfl) ?_
  refine oP (r := []) [0] (S' := [(2, pb b1), (4, pb b2), (6, iv y4), (7, .slice none 0 0)]) (by kernel_rfl) ?_
  refine oD ?_
  refine qT ?_
  refine cQ ?_
  refine cR [0, 1, 2, 3, 4, 5, 6] (by kernel_rfl) ?_
  refine oP (r := [2, 3, 4, 5, 6]) [0, 1] (S' := [(2, pb b1), (4, pb b2), (6, iv y4), (15, .slice none 0 0), (16, .pointer (some ⟨b1, 5, none⟩))]) (by kernel_rfl) ?_
  refine oC (Does.yi (Yl.load (d := 17) (T := 25) (v := .slice ua uc.length uh) (by kernel_rfl) (ldB ty25 (l := ([iv ud, .string ue, .string ub, .bool uf, iv ug, .slice ua uc.length uh] : LV)) (o := 5) (v := .slice ua uc.length uh) (pick2 _ _ _) (by kernel_rfl))) hI ?_)
  refine oP (r := [4, 5, 6]) [3] (S' := [(2, pb b1), (4, pb b2), (6, iv y4), (15, .slice none 0 0), (17, .slice ua uc.length uh), (18, iv y4)]) (by kernel_rfl) ?_
  obtain ⟨hg7, h0⟩ := guardS h0
  have hf13 := ui
  have hr10 := RdS.sub hf13 hg7
  obtain ⟨A8, hA11⟩ : ∃ x, subA ua uh 0 1 = x := ⟨_, rfl⟩
  obtain ⟨cp9, hc12⟩ : ∃ x, uh - (0 : Int).toNat = x := ⟨_, rfl⟩
  rw [hA11, hc12] at hr10
  refine oC (Does.yi (Yl.sub (lo := none) (hi := (some (iv y4))) (d := 19) (T := 25) (a := 0) (b := y4) (by kernel_rfl) Go.Proofs.Tryd.underlying25 ty9 (.inr ⟨rfl, rfl⟩) (.inl ⟨_, rfl⟩) hg7 hf13.1 (sub_length _ hg7) hA11 hc12) hI ?_)
  have hI := ownS_nil (α := ByteArray) hI 9 cS 1
  obtain ⟨hg14, h0⟩ := guardS h0
  refine oC (Does.append (d := 20) (t := 25) (tx := 25) (ty := 25) (ys := ([] : List ByteArray)) (zs := sub uc 0 y4) (x := .slice A8 ((sub uc 0 y4).length) cp9) (by kernel_rfl) Go.Proofs.Tryd.underlying25 ty9 (by kernel_rfl) hI (src_rd Go.Proofs.Tryd.underlying25 hI hr10 (one_flat _ (fun _ => rfl))) hr10.2.2.1 (by unfold LIM at hg14; omega) hg14 ?_)
  intro A15 cp16 w hI
  refine oP (r := []) [6] (S' := [(2, pb b1), (4, pb b2), (6, iv y4), (7, .slice A15 ((([] : List ByteArray) ++ (sub uc 0 y4)).length) cp16)]) (by kernel_rfl) ?_
  refine oD ?_
  refine qT ?_
  refine cQ ?_
  refine cR [0, 1, 2, 3, 4, 5, 6, 7] (by kernel_rfl) ?_
  refine oP (r := [2, 3, 4, 5, 6, 7]) [0, 1] (S' := [(2, pb b1), (4, pb b2), (6, iv y4), (21, .slice A15 ((([] : List ByteArray) ++ (sub uc 0 y4)).length) cp16), (22, .pointer (some ⟨b1, 5, none⟩))]) (by kernel_rfl) ?_
  refine oC (Does.yi (Yl.load (d := 23) (T := 25) (v := .slice ua uc.length uh) (by kernel_rfl) (ldB ty25 (l := ([iv ud, .string ue, .string ub, .bool uf, iv ug, .slice ua uc.length uh] : LV)) (o := 5) (v := .slice ua uc.length uh) (pick3 _ _ _ _) (by kernel_rfl))) hI ?_)
  refine oP (r := [5, 6, 7]) [3, 4] (S' := [(2, pb b1), (4, pb b2), (21, .slice A15 ((([] : List ByteArray) ++ (sub uc 0 y4)).length) cp16), (23, .slice ua uc.length uh), (25, iv (wi64 (y4 + 1)))]) (by kernel_rfl) ?_
  obtain ⟨hg17, h0⟩ := guardS h0
  have hf23 := ui
  have hr20 := RdS.sub hf23 hg17
  obtain ⟨A18, hA21⟩ : ∃ x, subA ua uh (wi64 (y4 + 1)) 1 = x := ⟨_, rfl⟩
  obtain ⟨cp19, hc22⟩ : ∃ x, uh - (wi64 (y4 + 1) : Int).toNat = x := ⟨_, rfl⟩
  rw [hA21, hc22] at hr20
  refine oC (Does.yi (Yl.sub (lo := (some (iv (wi64 (y4 + 1))))) (hi := none) (d := 26) (T := 25) (a := wi64 (y4 + 1)) (b := (uc.length : Int)) (by kernel_rfl) Go.Proofs.Tryd.underlying25 ty9 (.inl ⟨_, rfl⟩) (.inr ⟨rfl, rfl⟩) hg17 hf23.1 (sub_length _ hg17) hA21 hc22) hI ?_)
  obtain ⟨hg24, h0⟩ := guardS h0
  refine oC (Does.append (d := 27) (t := 25) (tx := 25) (ty := 25) (ys := ([] : List ByteArray) ++ (sub uc 0 y4)) (zs := sub uc (wi64 (y4 + 1)) (uc.length : Int)) (x := .slice A18 ((sub uc (wi64 (y4 + 1)) (uc.length : Int)).length) cp19) (by kernel_rfl) Go.Proofs.Tryd.underlying25 ty9 (by kernel_rfl) hI (src_rd Go.Proofs.Tryd.underlying25 hI hr20 (one_flat _ (fun _ => rfl))) hr20.2.2.1 (by unfold LIM at hg24; omega) hg24 ?_)
  intro A25 cp26 w hI
  refine oP (r := []) [7] (S' := [(2, pb b1), (4, pb b2), (7, .slice A25 (((([] : List ByteArray) ++ (sub uc 0 y4)) ++ (sub uc (wi64 (y4 + 1)) (uc.length : Int))).length) cp26)]) (by kernel_rfl) ?_
  refine oD ?_
  refine qT ?_
  refine cQ ?_
  refine cR [0, 1, 2] (by kernel_rfl) ?_
  refine oP (r := [2]) [0, 1] (S' := [(2, pb b1), (4, pb b2), (28, .slice A25 (((([] : List ByteArray) ++ (sub uc 0 y4)) ++ (sub uc (wi64 (y4 + 1)) (uc.length : Int))).length) cp26), (29, .pointer (some ⟨b1, 5, none⟩))]) (by kernel_rfl) ?_
  have hI := hI.mono (pick3 _ _ _ _)
  refine oC (dS (T := 25) (b := b1) (o := 5) (v := .slice A25 (((([] : List ByteArray) ++ (sub uc 0 y4)) ++ (sub uc (wi64 (y4 + 1)) (uc.length : Int))).length) cp26) (l := ([iv ud, .string ue, .string ub, .bool uf, iv ug, .slice ua uc.length uh] : LV)) (vs := ([.slice A25 (((([] : List ByteArray) ++ (sub uc 0 y4)) ++ (sub uc (wi64 (y4 + 1)) (uc.length : Int))).length) cp26] : LV)) (L' := (([iv ud, .string ue, .string ub, .bool uf, iv ug, .slice A25 (((([] : List ByteArray) ++ (sub uc 0 y4)) ++ (sub uc (wi64 (y4 + 1)) (uc.length : Int))).length) cp26] : LV))) (by kernel_rfl) ty25 hI (by kernel_rfl) (by kernel_rfl) (by kernel_rfl) (by kernel_rfl) (by kernel_rfl) ?_)
  intro w hI
  refine oD ?_
  refine qT ?_
  refine cQ ?_
  refine cR [0, 1, 2] (by kernel_rfl) ?_
  refine oC (Does.yi (Yl.load (d := 30) (T := 27) (v := .agg ((([iv ud, .string ue, .string ub, .bool uf, iv ug, .slice A25 (((([] : List ByteArray) ++ (sub uc 0 y4)) ++ (sub uc (wi64 (y4 + 1)) (uc.length : Int))).length) cp26] : LV))).toArray) (by kernel_rfl) (ldBN ty27 (l := (([iv ud, .string ue, .string ub, .bool uf, iv ug, .slice A25 (((([] : List ByteArray) ++ (sub uc 0 y4)) ++ (sub uc (wi64 (y4 + 1)) (uc.length : Int))).length) cp26] : LV))) (o := 0) (cs := (([iv ud, .string ue, .string ub, .bool uf, iv ug, .slice A25 (((([] : List ByteArray) ++ (sub uc 0 y4)) ++ (sub uc (wi64 (y4 + 1)) (uc.length : Int))).length) cp26] : LV))) (ent_refl _) (by kernel_rfl) (whole _ _ (by kernel_rfl)))) hI ?_)
  have hI := hI.mono (pick3 _ _ _ _)
  refine oC (dS (T := 27) (b := b2) (o := 0) (v := .agg ((([iv ud, .string ue, .string ub, .bool uf, iv ug, .slice A25 (((([] : List ByteArray) ++ (sub uc 0 y4)) ++ (sub uc (wi64 (y4 + 1)) (uc.length : Int))).length) cp26] : LV))).toArray) (l := (([iv 0, .string (⟨#[]⟩ : ByteArray), .string (⟨#[]⟩ : ByteArray), .bool false, iv 0, .slice none 0 0] : LV))) (vs := (([iv ud, .string ue, .string ub, .bool uf, iv ug, .slice A25 (((([] : List ByteArray) ++ (sub uc 0 y4)) ++ (sub uc (wi64 (y4 + 1)) (uc.length : Int))).length) cp26] : LV))) (L' := (([iv ud, .string ue, .string ub, .bool uf, iv ug, .slice A25 (((([] : List ByteArray) ++ (sub uc 0 y4)) ++ (sub uc (wi64 (y4 + 1)) (uc.length : Int))).length) cp26] : LV))) (by kernel_rfl) ty27 hI (by kernel_rfl) (by kernel_rfl) (by kernel_rfl) (by kernel_rfl) (by kernel_rfl) ?_)
  intro w hI
  refine oP (r := []) [2] (S' := [(4, pb b2), (5, iv 0)]) (by kernel_rfl) ?_
  refine oD ?_
  refine qT ?_
  refine CodT.ret ?_
  have hI := hI.mono (pick3 _ _ _ _)
  obtain ⟨Z27, hle28, hr29, hI⟩ := ownS_freeze hI
  have hL30 := (ldBN ty27 (l := (([iv ud, .string ue, .string ub, .bool uf, iv ug, .slice A25 (((([] : List ByteArray) ++ (sub uc 0 y4)) ++ (sub uc (wi64 (y4 + 1)) (uc.length : Int))).length) cp26] : LV))) (o := 0) (cs := (([iv ud, .string ue, .string ub, .bool uf, iv ug, .slice A25 (((([] : List ByteArray) ++ (sub uc 0 y4)) ++ (sub uc (wi64 (y4 + 1)) (uc.length : Int))).length) cp26] : LV))) (ent_refl _) (by kernel_rfl) (whole _ _ (by kernel_rfl))) w hI
  have hI := hI.drop
  have hI := hI.drop
  have e := someS h0
  subst e
  refine qK [4, 5] (S' := [(4, pb b2), (5, iv 0)]) (by kernel_rfl) ?_
  exact post_ret (v := .tuple #[.agg ((([iv ud, .string ue, .string ub, .bool uf, iv ug, .slice A25 (((([] : List ByteArray) ++ (sub uc 0 y4)) ++ (sub uc (wi64 (y4 + 1)) (uc.length : Int))).length) cp26] : LV))).toArray, iv 0]) (fun a ha => RunRes.run (vs := [.agg ((([iv ud, .string ue, .string ub, .bool uf, iv ug, .slice A25 (((([] : List ByteArray) ++ (sub uc 0 y4)) ++ (sub uc (wi64 (y4 + 1)) (uc.length : Int))).length) cp26] : LV))).toArray, iv 0]) (.cell (t := 4) (T := 27) (ad := ⟨b2, 0, none⟩) (by kernel_rfl) hL30 (.tmp (t := 5) (by kernel_rfl) .nil)) ha (by kernel_rfl)) ⟨A25, cp26, Z27, hle28, rfl, hr29, hI⟩
/-- cenotaph/cenotaphref08.Do -/
theorem c29 (w0 w : World) (Z : Hp) (A : HP) (hI : Inv w0 Z w A) (hT : Tabs Z) (ud : Int) (ue : ByteArray) (ub : ByteArray) (uf : Bool) (ug : Int) (ua : Option Addr) (uh : Nat) (uc : (List ByteArray)) (ui : RdS Z cS 1 ua uh uc) (a1 : ApiOp) (a2 : Int) (r : (Int × ByteArray × ByteArray × Bool × Int × (List ByteArray) × ApiEvent × Int)) (h0 : ref08_Do ud ue ub uf ug uc a1 a2 = some r) :
  Calls prog 29 #[.agg ([iv ud, .string ue, .string ub, .bool uf, iv ug, .slice ua uc.length uh] : LV).toArray, .agg (c_ApiOp a1).toArray, iv a2] w (fun e w' => ∃ (A1 : Option Addr) (c1 : Nat) (Z' : Hp), Z.le Z' ∧ e = .returned (.tuple #[.agg ([iv r.1, .string r.2.1, .string r.2.2.1, .bool r.2.2.2.1, iv r.2.2.2.2.1, .slice A1 r.2.2.2.2.2.1.length c1] : LV).toArray, .agg (c_ApiEvent r.2.2.2.2.2.2.1).toArray, iv r.2.2.2.2.2.2.2]) ∧ RdS Z' cS 1 A1 c1 r.2.2.2.2.2.1 ∧ r.2.2.2.2.2.2.1.Sum.length = 32 ∧ Inv w0 Z' w' A) := by
 have e4 := calls_intro (R := (fun e w' => ∃ (A1 : Option Addr) (c1 : Nat) (Z' : Hp), Z.le Z' ∧ e = .returned (.tuple #[.agg ([iv r.1, .string r.2.1, .string r.2.2.1, .bool r.2.2.2.1, iv r.2.2.2.2.1, .slice A1 r.2.2.2.2.2.1.length c1] : LV).toArray, .agg (c_ApiEvent r.2.2.2.2.2.2.1).toArray, iv r.2.2.2.2.2.2.2]) ∧ RdS Z' cS 1 A1 c1 r.2.2.2.2.2.1 ∧ r.2.2.2.2.2.2.1.Sum.length = 32 ∧ Inv w0 Z' w' A)) (w := w) (args := [.agg ([iv ud, .string ue, .string ub, .bool uf, iv ug, .slice ua uc.length uh] : LV).toArray, .agg (c_ApiOp a1).toArray, iv a2]) (fn := Go.Proofs.Tryd.f29) 104 Go.Proofs.Tryd.func29 (by rfl) Go.Proofs.Tryd.ntmps29 (by kernel_rfl)
 refine e4 ?_
 clear e4
 unfold ref08_Do at h0
 refine cQ ?_
 refine cR [0, 1, 2, 3, 4] (by kernel_rfl) ?_
 refine oC (Does.boxL (d := 3) (T := 27) (v := .agg ([iv ud, .string ue, .string ub, .bool uf, iv ug, .slice ua uc.length uh] : LV).toArray) ([iv ud, .string ue, .string ub, .bool uf, iv ug, .slice ua uc.length uh] : LV) (by kernel_rfl) hI (by kernel_rfl) ?_)
 intro b1 w hI
 refine oC (Does.boxL (d := 4) (T := 48) (v := .agg (c_ApiOp a1).toArray) (c_ApiOp a1) (by kernel_rfl) hI (by kernel_rfl) ?_)
 intro b2 w hI
 refine oC (Does.allocL (d := 6) (T := 27) ((([iv 0, .string (⟨#[]⟩ : ByteArray), .string (⟨#[]⟩ : ByteArray), .bool false, iv 0, .slice none 0 0] : LV))) (by kernel_rfl) ty27 hI (by kernel_rfl) ?_)
 intro b3 w hI
 refine oC (Does.allocL (d := 7) (T := 53) (c_ApiEvent (ApiEvent.mk 0 0 (⟨#[]⟩ : ByteArray) 0 0 (List.replicate 32 (0 : Int)))) (by kernel_rfl) ty53 hI (by kernel_rfl) ?_)
 intro b4 w hI
 refine oP (r := []) [4] (S' := [(2, iv a2), (3, pb b1), (4, pb b2), (6, pb b3), (7, pb b4)]) (by kernel_rfl) ?_
 refine oD ?_
 refine qT ?_
 refine cQ ?_
 refine cR [0, 1, 2] (by kernel_rfl) ?_
 refine oC (Does.yi (Yl.load (d := 12) (T := 27) (v := .agg ([iv ud, .string ue, .string ub, .bool uf, iv ug, .slice ua uc.length uh] : LV).toArray) (by kernel_rfl) (ldBN ty27 (l := ([iv ud, .string ue, .string ub, .bool uf, iv ug, .slice ua uc.length uh] : LV)) (o := 0) (cs := ([iv ud, .string ue, .string ub, .bool uf, iv ug, .slice ua uc.length uh] : LV)) (pick4 _ _ _ _ _) (by kernel_rfl) (whole _ _ (by kernel_rfl)))) hI ?_)
 refine oC (Does.allocL (d := 9) (T := 27) ((([iv 0, .string (⟨#[]⟩ : ByteArray), .string (⟨#[]⟩ : ByteArray), .bool false, iv 0, .slice none 0 0] : LV))) (by kernel_rfl) ty27 hI (by kernel_rfl) ?_)
 intro b5 w hI
 refine oC (dS (T := 27) (b := b5) (o := 0) (v := .agg ([iv ud, .string ue, .string ub, .bool uf, iv ug, .slice ua uc.length uh] : LV).toArray) (l := (([iv 0, .string (⟨#[]⟩ : ByteArray), .string (⟨#[]⟩ : ByteArray), .bool false, iv 0, .slice none 0 0] : LV))) (vs := ([iv ud, .string ue, .string ub, .bool uf, iv ug, .slice ua uc.length uh] : LV)) (L' := ([iv ud, .string ue, .string ub, .bool uf, iv ug, .slice ua uc.length uh] : LV)) (by kernel_rfl) ty27 hI (by kernel_rfl) (by kernel_rfl) (by kernel_rfl) (by kernel_rfl) (by kernel_rfl) ?_)
 intro w hI
 refine oD ?_
 refine qT ?_
 refine cQ ?_
 refine cR [0] (by kernel_rfl) ?_
 refine oP (r := []) [0] (S' := [(2, iv a2), (3, pb b1), (4, pb b2), (6, pb b3), (7, pb b4), (9, pb b5), (10, iv 1)]) (by kernel_rfl) ?_
 refine oD ?_
 refine qT ?_
 refine cQ ?_
 refine cR [0, 1, 2, 3, 4, 5, 6] (by kernel_rfl) ?_
 refine oP (r := [1, 2, 3, 4, 5, 6]) [0] (S' := [(2, iv a2), (3, pb b1), (4, pb b2), (6, pb b3), (7, pb b4), (9, pb b5), (10, iv 1), (13, pb b2)]) (by kernel_rfl) ?_
 refine oC (Does.yi (Yl.load (d := 14) (T := 46) (v := iv a1.Kind) (by kernel_rfl) (ldB ty46 (l := c_ApiOp a1) (o := 0) (v := iv a1.Kind) (pick4 _ _ _ _ _) (by kernel_rfl))) hI ?_)
 refine oP (r := [3, 4, 5, 6]) [2] (S' := [(2, iv a2), (3, pb b1), (4, pb b2), (6, pb b3), (7, pb b4), (9, pb b5), (10, iv 1), (14, iv a1.Kind), (15, pb b1)]) (by kernel_rfl) ?_
 refine oC (Does.yi (Yl.load (d := 16) (T := 3) (v := iv ud) (by kernel_rfl) (ldB ty3 (l := ([iv ud, .string ue, .string ub, .bool uf, iv ug, .slice ua uc.length uh] : LV)) (o := 0) (v := iv ud) (pick5 _ _ _ _ _ _) (by kernel_rfl))) hI ?_)
 refine oP (r := [5, 6]) [4] (S' := [(2, iv a2), (3, pb b1), (4, pb b2), (6, pb b3), (7, pb b4), (9, pb b5), (10, iv 1), (17, .agg (c_ApiEvent (ApiEvent.mk a1.Kind ud (⟨#[]⟩ : ByteArray) 0 0 (List.replicate 32 (0 : Int)))).toArray)]) (by kernel_rfl) ?_
 refine oC (Does.allocL (d := 11) (T := 53) (c_ApiEvent (ApiEvent.mk 0 0 (⟨#[]⟩ : ByteArray) 0 0 (List.replicate 32 (0 : Int)))) (by kernel_rfl) ty53 hI (by kernel_rfl) ?_)
 intro b6 w hI
 refine oC (dS (T := 53) (b := b6) (o := 0) (v := .agg (c_ApiEvent (ApiEvent.mk a1.Kind ud (⟨#[]⟩ : ByteArray) 0 0 (List.replicate 32 (0 : Int)))).toArray) (l := c_ApiEvent (ApiEvent.mk 0 0 (⟨#[]⟩ : ByteArray) 0 0 (List.replicate 32 (0 : Int)))) (vs := c_ApiEvent (ApiEvent.mk a1.Kind ud (⟨#[]⟩ : ByteArray) 0 0 (List.replicate 32 (0 : Int)))) (L' := c_ApiEvent (ApiEvent.mk a1.Kind ud (⟨#[]⟩ : ByteArray) 0 0 (List.replicate 32 (0 : Int)))) (by kernel_rfl) ty53 hI (by kernel_rfl) (len_ApiEvent _ (by kernel_rfl)) (by rw [(len_ApiEvent _ (by kernel_rfl))]; kernel_rfl) (ones_app _ _ (by kernel_rfl) (ones_cA _)) (lset_all _ _ (Eq.trans (len_ApiEvent _ (by kernel_rfl)) (Eq.symm (len_ApiEvent _ (by kernel_rfl))))) ?_)
 intro w hI
 refine oD ?_
 refine qT ?_
 obtain ⟨r1, h1, h0⟩ := bindS h0
 refine CodT.meet (fun a w => ∃ (x9 : Int) (x10 : ApiEvent) (x12 : Int) (x13 : ByteArray) (x14 : ByteArray) (x15 : Bool) (x16 : Int) (x17 : (List ByteArray)) (Z7 : Hp) (A18 : Option Addr) (cp19 : Nat), (x9, x10, x12, x13, x14, x15, x16, x17) = r1 ∧ Fr 104 [(3, pb b1), (6, pb b3), (7, pb b4), (9, pb b5), (10, iv x9), (11, pb b6)] a ∧ Inv w0 Z7 w (star (pt b6 (.cells (c_ApiEvent x10).toArray 53 (0, 0))) (star (pt b5 (.cells ([iv x12, .string x13, .string x14, .bool x15, iv x16, .slice A18 x17.length cp19] : LV).toArray 27 (0, 0))) (star (pt b4 (.cells (c_ApiEvent (ApiEvent.mk 0 0 (⟨#[]⟩ : ByteArray) 0 0 (List.replicate 32 (0 : Int)))).toArray 53 (0, 0))) (star (pt b3 (.cells ((([iv 0, .string (⟨#[]⟩ : ByteArray), .string (⟨#[]⟩ : ByteArray), .bool false, iv 0, .slice none 0 0] : LV))).toArray 27 (0, 0))) (star (pt b1 (.cells ([iv ud, .string ue, .string ub, .bool uf, iv ug, .slice ua uc.length uh] : LV).toArray 27 (0, 0))) A))))) ∧ Z.le Z7 ∧ x10.Sum.length = 32 ∧ RdS Z7 cS 1 A18 cp19 x17) ?_ ?_
 ·
  refine cQ ?_
  refine cR [0, 1] (by kernel_rfl) ?_
  refine oP (r := [1]) [0] (S' := [(2, iv a2), (3, pb b1), (4, pb b2), (6, pb b3), (7, pb b4), (9, pb b5), (10, iv 1), (11, pb b6), (18, pb b2)]) (by kernel_rfl) ?_
  refine oC (Does.yi (Yl.load (d := 19) (T := 46) (v := iv a1.Kind) (by kernel_rfl) (ldB ty46 (l := c_ApiOp a1) (o := 0) (v := iv a1.Kind) (pick5 _ _ _ _ _ _) (by kernel_rfl))) hI ?_)
  refine oD ?_
  refine qT ?_
  refine CodT.block ?_
  refine cQ ?_
  refine cR [0, 1] (by kernel_rfl) ?_
  refine oP (r := []) [0, 1] (S' := [(2, iv a2), (3, pb b1), (4, pb b2), (6, pb b3), (7, pb b4), (9, pb b5), (10, iv 1), (11, pb b6), (19, iv a1.Kind), (20, .bool (a1.Kind == 0))]) (by kernel_rfl) ?_
  refine oD ?_
  refine qT ?_
  by_cases hb21 : (a1.Kind == 0) = true
  ·
   rw [if_pos hb21] at h1
   refine CodT.yes' (b := a1.Kind == 0) (by kernel_rfl) hb21 ?_
   refine cR [0] (by kernel_rfl) ?_
   refine oP (r := []) [0] (S' := [(3, pb b1), (6, pb b3), (7, pb b4), (9, pb b5), (10, iv 4), (11, pb b6)]) (by kernel_rfl) ?_
   refine oD ?_
   refine Qn.block_normal ?_
   have hI := hI.mono (pick5 _ _ _ _ _ _)
   have hI := hI.drop
   have e := someS h1
   subst e
   exact Qn.thenJ fun a ha => ⟨4, (ApiEvent.mk a1.Kind ud (⟨#[]⟩ : ByteArray) 0 0 (List.replicate 32 (0 : Int))), ud, ue, ub, uf, ug, uc, Z, ua, uh, rfl, ha.keep [3, 6, 7, 9, 10, 11] (by kernel_rfl), hI, (Hp.le_refl _), (by kernel_rfl), ui⟩
  ·
   rw [if_neg hb21] at h1
   refine CodT.no' (b := a1.Kind == 0) (by kernel_rfl) (by simpa using hb21) ?_
   refine cQ ?_
   refine cR [0, 1] (by kernel_rfl) ?_
   refine oP (r := []) [0, 1] (S' := [(2, iv a2), (3, pb b1), (4, pb b2), (6, pb b3), (7, pb b4), (9, pb b5), (10, iv 1), (11, pb b6), (19, iv a1.Kind), (22, .bool (a1.Kind == 1))]) (by kernel_rfl) ?_
   refine oD ?_
   refine qT ?_
   by_cases hb22 : (a1.Kind == 1) = true
   ·
    rw [if_pos hb22] at h1
    refine CodT.yes' (b := a1.Kind == 1) (by kernel_rfl) hb22 ?_
    refine cQ ?_
    refine cR [0, 1, 2, 3, 4, 5, 6, 7, 8] (by kernel_rfl) ?_
    refine oC (Does.yi (Yl.load (d := 25) (T := 27) (v := .agg ([iv ud, .string ue, .string ub, .bool uf, iv ug, .slice ua uc.length uh] : LV).toArray) (by kernel_rfl) (ldBN ty27 (l := ([iv ud, .string ue, .string ub, .bool uf, iv ug, .slice ua uc.length uh] : LV)) (o := 0) (cs := ([iv ud, .string ue, .string ub, .bool uf, iv ug, .slice ua uc.length uh] : LV)) (pick6 _ _ _ _ _ _ _) (by kernel_rfl) (whole _ _ (by kernel_rfl)))) hI ?_)
    refine oP (r := [2, 3, 4, 5, 6, 7, 8]) [1] (S' := [(3, pb b1), (4, pb b2), (6, pb b3), (7, pb b4), (9, pb b5), (11, pb b6), (25, .agg ([iv ud, .string ue, .string ub, .bool uf, iv ug, .slice ua uc.length uh] : LV).toArray), (26, .pointer (some ⟨b2, 2, none⟩))]) (by kernel_rfl) ?_
    refine oC (Does.yi (Yl.load (d := 27) (T := 9) (v := .string a1.Text) (by kernel_rfl) (ldB ty9 (l := c_ApiOp a1) (o := 2) (v := .string a1.Text) (pick5 _ _ _ _ _ _) (by kernel_rfl))) hI ?_)
    obtain ⟨⟨y24, y25, y26, y27, y28, y29, y33⟩, hc23, h1⟩ := bindS h1
    try dsimp only at h1
    refine oC (Does.call (d := some 28) (n := 31) (vs := [.agg ([iv ud, .string ue, .string ub, .bool uf, iv ug, .slice ua uc.length uh] : LV).toArray, .string a1.Text]) (by kernel_rfl) en31 (c31 w0 w _ _ hI hT ud ue ub uf ug ua uh uc ui a1.Text _ hc23) ?_)
    rintro e w ⟨A30, cp31, Z34, hle35, rfl, hr32, hI⟩
    refine ⟨_, rfl, ?_⟩
    refine oP (r := [7, 8]) [4, 5, 6] (S' := [(3, pb b1), (4, pb b2), (6, pb b3), (7, pb b4), (9, pb b5), (11, pb b6), (29, .agg ([iv y24, .string y25, .string y26, .bool y27, iv y28, .slice A30 y29.length cp31] : LV).toArray), (30, iv y33)]) (by kernel_rfl) ?_
    have hI := hI.mono (pick2 _ _ _)
    refine oC (dS (T := 27) (b := b5) (o := 0) (v := .agg ([iv y24, .string y25, .string y26, .bool y27, iv y28, .slice A30 y29.length cp31] : LV).toArray) (l := ([iv ud, .string ue, .string ub, .bool uf, iv ug, .slice ua uc.length uh] : LV)) (vs := ([iv y24, .string y25, .string y26, .bool y27, iv y28, .slice A30 y29.length cp31] : LV)) (L' := ([iv y24, .string y25, .string y26, .bool y27, iv y28, .slice A30 y29.length cp31] : LV)) (by kernel_rfl) ty27 hI (by kernel_rfl) (by kernel_rfl) (by kernel_rfl) (by kernel_rfl) (by kernel_rfl) ?_)
    intro w hI
    refine oP (r := []) [8] (S' := [(3, pb b1), (4, pb b2), (6, pb b3), (7, pb b4), (9, pb b5), (10, iv y33), (11, pb b6)]) (by kernel_rfl) ?_
    refine oD ?_
    refine qT ?_
    refine cR [0, 1, 2, 3, 4] (by kernel_rfl) ?_
    refine oP (r := [1, 2, 3, 4]) [0] (S' := [(3, pb b1), (6, pb b3), (7, pb b4), (9, pb b5), (10, iv y33), (11, pb b6), (31, .pointer (some ⟨b2, 2, none⟩))]) (by kernel_rfl) ?_
    refine oC (Does.yi (Yl.load (d := 32) (T := 9) (v := .string a1.Text) (by kernel_rfl) (ldB ty9 (l := c_ApiOp a1) (o := 2) (v := .string a1.Text) (pick5 _ _ _ _ _ _) (by kernel_rfl))) hI ?_)
    refine oP (r := [4]) [2, 3] (S' := [(3, pb b1), (6, pb b3), (7, pb b4), (9, pb b5), (10, iv y33), (11, pb b6), (33, iv (a1.Text.size : Int)), (34, .pointer (some ⟨b6, 4, none⟩))]) (by kernel_rfl) ?_
    have hI := hI.mono (pick2 _ _ _)
    refine oC (dS (T := 3) (b := b6) (o := 4) (v := iv (a1.Text.size : Int)) (l := c_ApiEvent (ApiEvent.mk a1.Kind ud (⟨#[]⟩ : ByteArray) 0 0 (List.replicate 32 (0 : Int)))) (vs := ([iv (a1.Text.size : Int)] : LV)) (L' := c_ApiEvent (ApiEvent.mk a1.Kind ud (⟨#[]⟩ : ByteArray) 0 (a1.Text.size : Int) (List.replicate 32 (0 : Int)))) (by kernel_rfl) ty3 hI (by kernel_rfl) (by kernel_rfl) (by kernel_rfl) (by kernel_rfl) (by kernel_rfl) ?_)
    intro w hI
    refine oD ?_
    refine Qn.block_normal ?_
    have hI := hI.mono (pick5 _ _ _ _ _ _)
    have hI := hI.drop
    have e := someS h1
    subst e
    exact Qn.thenJ fun a ha => ⟨y33, (ApiEvent.mk a1.Kind ud (⟨#[]⟩ : ByteArray) 0 (a1.Text.size : Int) (List.replicate 32 (0 : Int))), y24, y25, y26, y27, y28, y29, Z34, A30, cp31, rfl, ha.keep [3, 6, 7, 9, 10, 11] (by kernel_rfl), hI, hle35, (by kernel_rfl), hr32⟩
   ·
    rw [if_neg hb22] at h1
    refine CodT.no' (b := a1.Kind == 1) (by kernel_rfl) (by simpa using hb22) ?_
    refine cQ ?_
    refine cR [0, 1] (by kernel_rfl) ?_
    refine oP (r := []) [0, 1] (S' := [(2, iv a2), (3, pb b1), (4, pb b2), (6, pb b3), (7, pb b4), (9, pb b5), (10, iv 1), (11, pb b6), (19, iv a1.Kind), (35, .bool (a1.Kind == 2))]) (by kernel_rfl) ?_
    refine oD ?_
    refine qT ?_
    by_cases hb36 : (a1.Kind == 2) = true
    ·
     rw [if_pos hb36] at h1
     refine CodT.yes' (b := a1.Kind == 2) (by kernel_rfl) hb36 ?_
     refine cQ ?_
     refine cR [0, 1, 2, 3, 4, 5, 6, 7, 8] (by kernel_rfl) ?_
     refine oC (Does.yi (Yl.load (d := 38) (T := 27) (v := .agg ([iv ud, .string ue, .string ub, .bool uf, iv ug, .slice ua uc.length uh] : LV).toArray) (by kernel_rfl) (ldBN ty27 (l := ([iv ud, .string ue, .string ub, .bool uf, iv ug, .slice ua uc.length uh] : LV)) (o := 0) (cs := ([iv ud, .string ue, .string ub, .bool uf, iv ug, .slice ua uc.length uh] : LV)) (pick6 _ _ _ _ _ _ _) (by kernel_rfl) (whole _ _ (by kernel_rfl)))) hI ?_)
     refine oP (r := [2, 3, 4, 5, 6, 7, 8]) [1] (S' := [(3, pb b1), (4, pb b2), (6, pb b3), (7, pb b4), (9, pb b5), (11, pb b6), (38, .agg ([iv ud, .string ue, .string ub, .bool uf, iv ug, .slice ua uc.length uh] : LV).toArray), (39, .pointer (some ⟨b2, 3, none⟩))]) (by kernel_rfl) ?_
     refine oC (Does.yi (Yl.load (d := 40) (T := 3) (v := iv a1.Time) (by kernel_rfl) (ldB ty3 (l := c_ApiOp a1) (o := 3) (v := iv a1.Time) (pick5 _ _ _ _ _ _) (by kernel_rfl))) hI ?_)
     obtain ⟨⟨y38, y39, y40, y41, y42, y43, y47⟩, hc37, h1⟩ := bindS h1
     try dsimp only at h1
     refine oC (Does.call (d := some 41) (n := 51) (vs := [.agg ([iv ud, .string ue, .string ub, .bool uf, iv ug, .slice ua uc.length uh] : LV).toArray, iv a1.Time]) (by kernel_rfl) en51 (c51 w0 w _ _ hI hT ud ue ub uf ug ua uh uc ui a1.Time _ hc37) ?_)
     rintro e w ⟨A44, cp45, Z48, hle49, rfl, hr46, hI⟩
     refine ⟨_, rfl, ?_⟩
     refine oP (r := [7, 8]) [4, 5, 6] (S' := [(3, pb b1), (4, pb b2), (6, pb b3), (7, pb b4), (9, pb b5), (11, pb b6), (42, .agg ([iv y38, .string y39, .string y40, .bool y41, iv y42, .slice A44 y43.length cp45] : LV).toArray), (43, iv y47)]) (by kernel_rfl) ?_
     have hI := hI.mono (pick2 _ _ _)
     refine oC (dS (T := 27) (b := b5) (o := 0) (v := .agg ([iv y38, .string y39, .string y40, .bool y41, iv y42, .slice A44 y43.length cp45] : LV).toArray) (l := ([iv ud, .string ue, .string ub, .bool uf, iv ug, .slice ua uc.length uh] : LV)) (vs := ([iv y38, .string y39, .string y40, .bool y41, iv y42, .slice A44 y43.length cp45] : LV)) (L' := ([iv y38, .string y39, .string y40, .bool y41, iv y42, .slice A44 y43.length cp45] : LV)) (by kernel_rfl) ty27 hI (by kernel_rfl) (by kernel_rfl) (by kernel_rfl) (by kernel_rfl) (by kernel_rfl) ?_)
     intro w hI
     refine oP (r := []) [8] (S' := [(3, pb b1), (4, pb b2), (6, pb b3), (7, pb b4), (9, pb b5), (10, iv y47), (11, pb b6)]) (by kernel_rfl) ?_
     refine oD ?_
     refine qT ?_
     refine cQ ?_
     refine cR [0, 1, 2, 3] (by kernel_rfl) ?_
     refine oP (r := [1, 2, 3]) [0] (S' := [(3, pb b1), (6, pb b3), (7, pb b4), (9, pb b5), (10, iv y47), (11, pb b6), (44, .pointer (some ⟨b2, 3, none⟩))]) (by kernel_rfl) ?_
     refine oC (Does.yi (Yl.load (d := 45) (T := 3) (v := iv a1.Time) (by kernel_rfl) (ldB ty3 (l := c_ApiOp a1) (o := 3) (v := iv a1.Time) (pick5 _ _ _ _ _ _) (by kernel_rfl))) hI ?_)
     refine oP (r := [3]) [2] (S' := [(3, pb b1), (6, pb b3), (7, pb b4), (9, pb b5), (10, iv y47), (11, pb b6), (45, iv a1.Time), (46, .pointer (some ⟨b6, 3, none⟩))]) (by kernel_rfl) ?_
     have hI := hI.mono (pick2 _ _ _)
     refine oC (dS (T := 3) (b := b6) (o := 3) (v := iv a1.Time) (l := c_ApiEvent (ApiEvent.mk a1.Kind ud (⟨#[]⟩ : ByteArray) 0 0 (List.replicate 32 (0 : Int)))) (vs := ([iv a1.Time] : LV)) (L' := c_ApiEvent (ApiEvent.mk a1.Kind ud (⟨#[]⟩ : ByteArray) a1.Time 0 (List.replicate 32 (0 : Int)))) (by kernel_rfl) ty3 hI (by kernel_rfl) (by kernel_rfl) (by kernel_rfl) (by kernel_rfl) (by kernel_rfl) ?_)
     intro w hI
     refine oD ?_
     refine qT ?_
     refine cQ ?_
     refine cR [0, 1, 2, 3, 4] (by kernel_rfl) ?_
     refine oP (r := [1, 2, 3, 4]) [0] (S' := [(3, pb b1), (6, pb b3), (7, pb b4), (9, pb b5), (10, iv y47), (11, pb b6), (47, .pointer (some ⟨b1, 2, none⟩))]) (by kernel_rfl) ?_
     refine oC (Does.yi (Yl.load (d := 48) (T := 9) (v := .string ub) (by kernel_rfl) (ldB ty9 (l := ([iv ud, .string ue, .string ub, .bool uf, iv ug, .slice ua uc.length uh] : LV)) (o := 2) (v := .string ub) (pick6 _ _ _ _ _ _ _) (by kernel_rfl))) hI ?_)
     refine oP (r := [4]) [2, 3] (S' := [(3, pb b1), (6, pb b3), (7, pb b4), (9, pb b5), (10, iv y47), (11, pb b6), (49, iv (ub.size : Int)), (50, .pointer (some ⟨b6, 4, none⟩))]) (by kernel_rfl) ?_
     refine oC (dS (T := 3) (b := b6) (o := 4) (v := iv (ub.size : Int)) (l := c_ApiEvent (ApiEvent.mk a1.Kind ud (⟨#[]⟩ : ByteArray) a1.Time 0 (List.replicate 32 (0 : Int)))) (vs := ([iv (ub.size : Int)] : LV)) (L' := c_ApiEvent (ApiEvent.mk a1.Kind ud (⟨#[]⟩ : ByteArray) a1.Time (ub.size : Int) (List.replicate 32 (0 : Int)))) (by kernel_rfl) ty3 hI (by kernel_rfl) (by kernel_rfl) (by kernel_rfl) (by kernel_rfl) (by kernel_rfl) ?_)
     intro w hI
     refine oD ?_
     refine qT ?_
     refine cR [0, 1, 2, 3, 4] (by kernel_rfl) ?_
     refine oP (r := [1, 2, 3, 4]) [0] (S' := [(3, pb b1), (6, pb b3), (7, pb b4), (9, pb b5), (10, iv y47), (11, pb b6), (51, .pointer (some ⟨b1, 2, none⟩))]) (by kernel_rfl) ?_
     refine oC (Does.yi (Yl.load (d := 52) (T := 9) (v := .string ub) (by kernel_rfl) (ldB ty9 (l := ([iv ud, .string ue, .string ub, .bool uf, iv ug, .slice ua uc.length uh] : LV)) (o := 2) (v := .string ub) (pick6 _ _ _ _ _ _ _) (by kernel_rfl))) hI ?_)
     obtain ⟨y51, hc50, h1⟩ := bindS h1
     try dsimp only at h1
     refine oC (Does.call (d := some 53) (n := 52) (vs := [.string ub]) (by kernel_rfl) en52 (c52 w0 w _ _ hI (hT.mono hle49) ub _ hc50) ?_)
     rintro e w ⟨rfl, hl52, hI⟩
     refine ⟨_, rfl, ?_⟩
     refine oP (r := [4]) [3] (S' := [(3, pb b1), (6, pb b3), (7, pb b4), (9, pb b5), (10, iv y47), (11, pb b6), (53, .agg (cA (Value.int .u8) y51).toArray), (54, .pointer (some ⟨b6, 5, none⟩))]) (by kernel_rfl) ?_
     refine oC (dS (T := 51) (b := b6) (o := 5) (v := .agg (cA (Value.int .u8) y51).toArray) (l := c_ApiEvent (ApiEvent.mk a1.Kind ud (⟨#[]⟩ : ByteArray) a1.Time (ub.size : Int) (List.replicate 32 (0 : Int)))) (vs := cA (Value.int .u8) y51) (L' := c_ApiEvent (ApiEvent.mk a1.Kind ud (⟨#[]⟩ : ByteArray) a1.Time (ub.size : Int) y51)) (by kernel_rfl) ty51 hI (by kernel_rfl) ((cA_length _ _).trans hl52) (by rw [(len_ApiEvent _ (by kernel_rfl))]; kernel_rfl) (ones_cA _) (tail_all _ _ _ _ _ (by kernel_rfl) (Eq.trans hl52 (Eq.symm (by kernel_rfl)))) ?_)
     intro w hI
     refine oD ?_
     refine Qn.block_normal ?_
     have hI := hI.mono (pick5 _ _ _ _ _ _)
     have hI := hI.drop
     have e := someS h1
     subst e
     exact Qn.thenJ fun a ha => ⟨y47, (ApiEvent.mk a1.Kind ud (⟨#[]⟩ : ByteArray) a1.Time (ub.size : Int) y51), y38, y39, y40, y41, y42, y43, Z48, A44, cp45, rfl, ha.keep [3, 6, 7, 9, 10, 11] (by kernel_rfl), hI, hle49, hl52, hr46⟩
    ·
     rw [if_neg hb36] at h1
     refine CodT.no' (b := a1.Kind == 2) (by kernel_rfl) (by simpa using hb36) ?_
     refine cQ ?_
     refine cR [0, 1] (by kernel_rfl) ?_
     refine oP (r := []) [0, 1] (S' := [(2, iv a2), (3, pb b1), (4, pb b2), (6, pb b3), (7, pb b4), (9, pb b5), (10, iv 1), (11, pb b6), (19, iv a1.Kind), (55, .bool (a1.Kind == 3))]) (by kernel_rfl) ?_
     refine oD ?_
     refine qT ?_
     by_cases hb53 : (a1.Kind == 3) = true
     ·
      rw [if_pos hb53] at h1
      refine CodT.yes' (b := a1.Kind == 3) (by kernel_rfl) hb53 ?_
      refine cQ ?_
      refine cR [0, 1, 2, 3, 4, 5, 6, 7, 8] (by kernel_rfl) ?_
      refine oC (Does.yi (Yl.load (d := 58) (T := 27) (v := .agg ([iv ud, .string ue, .string ub, .bool uf, iv ug, .slice ua uc.length uh] : LV).toArray) (by kernel_rfl) (ldBN ty27 (l := ([iv ud, .string ue, .string ub, .bool uf, iv ug, .slice ua uc.length uh] : LV)) (o := 0) (cs := ([iv ud, .string ue, .string ub, .bool uf, iv ug, .slice ua uc.length uh] : LV)) (pick6 _ _ _ _ _ _ _) (by kernel_rfl) (whole _ _ (by kernel_rfl)))) hI ?_)
      refine oP (r := [2, 3, 4, 5, 6, 7, 8]) [1] (S' := [(3, pb b1), (4, pb b2), (6, pb b3), (7, pb b4), (9, pb b5), (11, pb b6), (58, .agg ([iv ud, .string ue, .string ub, .bool uf, iv ug, .slice ua uc.length uh] : LV).toArray), (59, .pointer (some ⟨b2, 3, none⟩))]) (by kernel_rfl) ?_
      refine oC (Does.yi (Yl.load (d := 60) (T := 3) (v := iv a1.Time) (by kernel_rfl) (ldB ty3 (l := c_ApiOp a1) (o := 3) (v := iv a1.Time) (pick5 _ _ _ _ _ _) (by kernel_rfl))) hI ?_)
      obtain ⟨⟨y55, y56, y57, y58, y59, y60, y64⟩, hc54, h1⟩ := bindS h1
      try dsimp only at h1
      refine oC (Does.call (d := some 61) (n := 53) (vs := [.agg ([iv ud, .string ue, .string ub, .bool uf, iv ug, .slice ua uc.length uh] : LV).toArray, iv a1.Time]) (by kernel_rfl) en53 (c53 w0 w _ _ hI hT ud ue ub uf ug ua uh uc ui a1.Time _ hc54) ?_)
      rintro e w ⟨A61, cp62, Z65, hle66, rfl, hr63, hI⟩
      refine ⟨_, rfl, ?_⟩
      refine oP (r := [7, 8]) [4, 5, 6] (S' := [(3, pb b1), (4, pb b2), (6, pb b3), (7, pb b4), (9, pb b5), (11, pb b6), (62, .agg ([iv y55, .string y56, .string y57, .bool y58, iv y59, .slice A61 y60.length cp62] : LV).toArray), (63, iv y64)]) (by kernel_rfl) ?_
      have hI := hI.mono (pick2 _ _ _)
      refine oC (dS (T := 27) (b := b5) (o := 0) (v := .agg ([iv y55, .string y56, .string y57, .bool y58, iv y59, .slice A61 y60.length cp62] : LV).toArray) (l := ([iv ud, .string ue, .string ub, .bool uf, iv ug, .slice ua uc.length uh] : LV)) (vs := ([iv y55, .string y56, .string y57, .bool y58, iv y59, .slice A61 y60.length cp62] : LV)) (L' := ([iv y55, .string y56, .string y57, .bool y58, iv y59, .slice A61 y60.length cp62] : LV)) (by kernel_rfl) ty27 hI (by kernel_rfl) (by kernel_rfl) (by kernel_rfl) (by kernel_rfl) (by kernel_rfl) ?_)
      intro w hI
      refine oP (r := []) [8] (S' := [(3, pb b1), (4, pb b2), (6, pb b3), (7, pb b4), (9, pb b5), (10, iv y64), (11, pb b6)]) (by kernel_rfl) ?_
      refine oD ?_
      refine qT ?_
      refine cR [0, 1, 2, 3] (by kernel_rfl) ?_
      refine oP (r := [1, 2, 3]) [0] (S' := [(3, pb b1), (6, pb b3), (7, pb b4), (9, pb b5), (10, iv y64), (11, pb b6), (64, .pointer (some ⟨b2, 3, none⟩))]) (by kernel_rfl) ?_
      refine oC (Does.yi (Yl.load (d := 65) (T := 3) (v := iv a1.Time) (by kernel_rfl) (ldB ty3 (l := c_ApiOp a1) (o := 3) (v := iv a1.Time) (pick5 _ _ _ _ _ _) (by kernel_rfl))) hI ?_)
      refine oP (r := [3]) [2] (S' := [(3, pb b1), (6, pb b3), (7, pb b4), (9, pb b5), (10, iv y64), (11, pb b6), (65, iv a1.Time), (66, .pointer (some ⟨b6, 3, none⟩))]) (by kernel_rfl) ?_
      have hI := hI.mono (pick2 _ _ _)
      refine oC (dS (T := 3) (b := b6) (o := 3) (v := iv a1.Time) (l := c_ApiEvent (ApiEvent.mk a1.Kind ud (⟨#[]⟩ : ByteArray) 0 0 (List.replicate 32 (0 : Int)))) (vs := ([iv a1.Time] : LV)) (L' := c_ApiEvent (ApiEvent.mk a1.Kind ud (⟨#[]⟩ : ByteArray) a1.Time 0 (List.replicate 32 (0 : Int)))) (by kernel_rfl) ty3 hI (by kernel_rfl) (by kernel_rfl) (by kernel_rfl) (by kernel_rfl) (by kernel_rfl) ?_)
      intro w hI
      refine oD ?_
      refine Qn.block_normal ?_
      have hI := hI.mono (pick5 _ _ _ _ _ _)
      have hI := hI.drop
      have e := someS h1
      subst e
      exact Qn.thenJ fun a ha => ⟨y64, (ApiEvent.mk a1.Kind ud (⟨#[]⟩ : ByteArray) a1.Time 0 (List.replicate 32 (0 : Int))), y55, y56, y57, y58, y59, y60, Z65, A61, cp62, rfl, ha.keep [3, 6, 7, 9, 10, 11] (by kernel_rfl), hI, hle66, (by kernel_rfl), hr63⟩
     ·
      rw [if_neg hb53] at h1
      refine CodT.no' (b := a1.Kind == 3) (by kernel_rfl) (by simpa using hb53) ?_
      refine cQ ?_
      refine cR [0, 1] (by kernel_rfl) ?_
      refine oP (r := []) [0, 1] (S' := [(2, iv a2), (3, pb b1), (4, pb b2), (6, pb b3), (7, pb b4), (9, pb b5), (10, iv 1), (11, pb b6), (19, iv a1.Kind), (67, .bool (a1.Kind == 4))]) (by kernel_rfl) ?_
      refine oD ?_
      refine qT ?_
      by_cases hb67 : (a1.Kind == 4) = true
      ·
       rw [if_pos hb67] at h1
       refine CodT.yes' (b := a1.Kind == 4) (by kernel_rfl) hb67 ?_
       refine cQ ?_
       refine cR [0, 1, 2, 3, 4, 5, 6, 7, 8] (by kernel_rfl) ?_
       refine oC (Does.yi (Yl.load (d := 70) (T := 27) (v := .agg ([iv ud, .string ue, .string ub, .bool uf, iv ug, .slice ua uc.length uh] : LV).toArray) (by kernel_rfl) (ldBN ty27 (l := ([iv ud, .string ue, .string ub, .bool uf, iv ug, .slice ua uc.length uh] : LV)) (o := 0) (cs := ([iv ud, .string ue, .string ub, .bool uf, iv ug, .slice ua uc.length uh] : LV)) (pick6 _ _ _ _ _ _ _) (by kernel_rfl) (whole _ _ (by kernel_rfl)))) hI ?_)
       refine oP (r := [2, 3, 4, 5, 6, 7, 8]) [1] (S' := [(3, pb b1), (4, pb b2), (6, pb b3), (7, pb b4), (9, pb b5), (11, pb b6), (70, .agg ([iv ud, .string ue, .string ub, .bool uf, iv ug, .slice ua uc.length uh] : LV).toArray), (71, .pointer (some ⟨b2, 2, none⟩))]) (by kernel_rfl) ?_
       refine oC (Does.yi (Yl.load (d := 72) (T := 9) (v := .string a1.Text) (by kernel_rfl) (ldB ty9 (l := c_ApiOp a1) (o := 2) (v := .string a1.Text) (pick5 _ _ _ _ _ _) (by kernel_rfl))) hI ?_)
       obtain ⟨⟨y69, y70, y71, y72, y73, y74, y78⟩, hc68, h1⟩ := bindS h1
       try dsimp only at h1
       refine oC (Does.call (d := some 73) (n := 54) (vs := [.agg ([iv ud, .string ue, .string ub, .bool uf, iv ug, .slice ua uc.length uh] : LV).toArray, .string a1.Text]) (by kernel_rfl) en54 (c54 w0 w _ _ hI hT ud ue ub uf ug ua uh uc ui a1.Text _ hc68) ?_)
       rintro e w ⟨A75, cp76, Z79, hle80, rfl, hr77, hI⟩
       refine ⟨_, rfl, ?_⟩
       refine oP (r := [7, 8]) [4, 5, 6] (S' := [(3, pb b1), (4, pb b2), (6, pb b3), (7, pb b4), (9, pb b5), (11, pb b6), (74, .agg ([iv y69, .string y70, .string y71, .bool y72, iv y73, .slice A75 y74.length cp76] : LV).toArray), (75, iv y78)]) (by kernel_rfl) ?_
       have hI := hI.mono (pick2 _ _ _)
       refine oC (dS (T := 27) (b := b5) (o := 0) (v := .agg ([iv y69, .string y70, .string y71, .bool y72, iv y73, .slice A75 y74.length cp76] : LV).toArray) (l := ([iv ud, .string ue, .string ub, .bool uf, iv ug, .slice ua uc.length uh] : LV)) (vs := ([iv y69, .string y70, .string y71, .bool y72, iv y73, .slice A75 y74.length cp76] : LV)) (L' := ([iv y69, .string y70, .string y71, .bool y72, iv y73, .slice A75 y74.length cp76] : LV)) (by kernel_rfl) ty27 hI (by kernel_rfl) (by kernel_rfl) (by kernel_rfl) (by kernel_rfl) (by kernel_rfl) ?_)
       intro w hI
       refine oP (r := []) [8] (S' := [(3, pb b1), (4, pb b2), (6, pb b3), (7, pb b4), (9, pb b5), (10, iv y78), (11, pb b6)]) (by kernel_rfl) ?_
       refine oD ?_
       refine qT ?_
       refine cR [0, 1, 2, 3] (by kernel_rfl) ?_
       refine oP (r := [1, 2, 3]) [0] (S' := [(3, pb b1), (6, pb b3), (7, pb b4), (9, pb b5), (10, iv y78), (11, pb b6), (76, .pointer (some ⟨b2, 2, none⟩))]) (by kernel_rfl) ?_
       refine oC (Does.yi (Yl.load (d := 77) (T := 9) (v := .string a1.Text) (by kernel_rfl) (ldB ty9 (l := c_ApiOp a1) (o := 2) (v := .string a1.Text) (pick5 _ _ _ _ _ _) (by kernel_rfl))) hI ?_)
       refine oP (r := [3]) [2] (S' := [(3, pb b1), (6, pb b3), (7, pb b4), (9, pb b5), (10, iv y78), (11, pb b6), (77, .string a1.Text), (78, .pointer (some ⟨b6, 2, none⟩))]) (by kernel_rfl) ?_
       have hI := hI.mono (pick2 _ _ _)
       refine oC (dS (T := 9) (b := b6) (o := 2) (v := .string a1.Text) (l := c_ApiEvent (ApiEvent.mk a1.Kind ud (⟨#[]⟩ : ByteArray) 0 0 (List.replicate 32 (0 : Int)))) (vs := ([.string a1.Text] : LV)) (L' := c_ApiEvent (ApiEvent.mk a1.Kind ud a1.Text 0 0 (List.replicate 32 (0 : Int)))) (by kernel_rfl) ty9 hI (by kernel_rfl) (by kernel_rfl) (by kernel_rfl) (by kernel_rfl) (by kernel_rfl) ?_)
       intro w hI
       refine oD ?_
       refine Qn.block_normal ?_
       have hI := hI.mono (pick5 _ _ _ _ _ _)
       have hI := hI.drop
       have e := someS h1
       subst e
       exact Qn.thenJ fun a ha => ⟨y78, (ApiEvent.mk a1.Kind ud a1.Text 0 0 (List.replicate 32 (0 : Int))), y69, y70, y71, y72, y73, y74, Z79, A75, cp76, rfl, ha.keep [3, 6, 7, 9, 10, 11] (by kernel_rfl), hI, hle80, (by kernel_rfl), hr77⟩
      ·
       rw [if_neg hb67] at h1
       refine CodT.no' (b := a1.Kind == 4) (by kernel_rfl) (by simpa using hb67) ?_
       refine cQ ?_
       refine cR [0, 1] (by kernel_rfl) ?_
       refine oP (r := []) [0, 1] (S' := [(2, iv a2), (3, pb b1), (4, pb b2), (6, pb b3), (7, pb b4), (9, pb b5), (10, iv 1), (11, pb b6), (19, iv a1.Kind), (79, .bool (a1.Kind == 5))]) (by kernel_rfl) ?_
       refine oD ?_
       refine qT ?_
       by_cases hb81 : (a1.Kind == 5) = true
       ·
        rw [if_pos hb81] at h1
        refine CodT.yes' (b := a1.Kind == 5) (by kernel_rfl) hb81 ?_
        refine cQ ?_
        refine cR [0, 1, 2, 3, 4, 5, 6, 7, 8] (by kernel_rfl) ?_
        refine oC (Does.yi (Yl.load (d := 82) (T := 27) (v := .agg ([iv ud, .string ue, .string ub, .bool uf, iv ug, .slice ua uc.length uh] : LV).toArray) (by kernel_rfl) (ldBN ty27 (l := ([iv ud, .string ue, .string ub, .bool uf, iv ug, .slice ua uc.length uh] : LV)) (o := 0) (cs := ([iv ud, .string ue, .string ub, .bool uf, iv ug, .slice ua uc.length uh] : LV)) (pick6 _ _ _ _ _ _ _) (by kernel_rfl) (whole _ _ (by kernel_rfl)))) hI ?_)
        refine oP (r := [2, 3, 4, 5, 6, 7, 8]) [1] (S' := [(3, pb b1), (4, pb b2), (6, pb b3), (7, pb b4), (9, pb b5), (11, pb b6), (82, .agg ([iv ud, .string ue, .string ub, .bool uf, iv ug, .slice ua uc.length uh] : LV).toArray), (83, .pointer (some ⟨b2, 2, none⟩))]) (by kernel_rfl) ?_
        refine oC (Does.yi (Yl.load (d := 84) (T := 9) (v := .string a1.Text) (by kernel_rfl) (ldB ty9 (l := c_ApiOp a1) (o := 2) (v := .string a1.Text) (pick5 _ _ _ _ _ _) (by kernel_rfl))) hI ?_)
        obtain ⟨⟨y83, y84, y85, y86, y87, y88, y92⟩, hc82, h1⟩ := bindS h1
        try dsimp only at h1
        refine oC (Does.call (d := some 85) (n := 55) (vs := [.agg ([iv ud, .string ue, .string ub, .bool uf, iv ug, .slice ua uc.length uh] : LV).toArray, .string a1.Text]) (by kernel_rfl) en55 (c55 w0 w _ _ hI hT ud ue ub uf ug ua uh uc ui a1.Text _ hc82) ?_)
        rintro e w ⟨A89, cp90, Z93, hle94, rfl, hr91, hI⟩
        refine ⟨_, rfl, ?_⟩
        refine oP (r := [7, 8]) [4, 5, 6] (S' := [(3, pb b1), (4, pb b2), (6, pb b3), (7, pb b4), (9, pb b5), (11, pb b6), (86, .agg ([iv y83, .string y84, .string y85, .bool y86, iv y87, .slice A89 y88.length cp90] : LV).toArray), (87, iv y92)]) (by kernel_rfl) ?_
        have hI := hI.mono (pick2 _ _ _)
        refine oC (dS (T := 27) (b := b5) (o := 0) (v := .agg ([iv y83, .string y84, .string y85, .bool y86, iv y87, .slice A89 y88.length cp90] : LV).toArray) (l := ([iv ud, .string ue, .string ub, .bool uf, iv ug, .slice ua uc.length uh] : LV)) (vs := ([iv y83, .string y84, .string y85, .bool y86, iv y87, .slice A89 y88.length cp90] : LV)) (L' := ([iv y83, .string y84, .string y85, .bool y86, iv y87, .slice A89 y88.length cp90] : LV)) (by kernel_rfl) ty27 hI (by kernel_rfl) (by kernel_rfl) (by kernel_rfl) (by kernel_rfl) (by kernel_rfl) ?_)
        intro w hI
        refine oP (r := []) [8] (S' := [(3, pb b1), (4, pb b2), (6, pb b3), (7, pb b4), (9, pb b5), (10, iv y92), (11, pb b6)]) (by kernel_rfl) ?_
        refine oD ?_
        refine qT ?_
        refine cR [0, 1, 2, 3] (by kernel_rfl) ?_
        refine oP (r := [1, 2, 3]) [0] (S' := [(3, pb b1), (6, pb b3), (7, pb b4), (9, pb b5), (10, iv y92), (11, pb b6), (88, .pointer (some ⟨b2, 2, none⟩))]) (by kernel_rfl) ?_
        refine oC (Does.yi (Yl.load (d := 89) (T := 9) (v := .string a1.Text) (by kernel_rfl) (ldB ty9 (l := c_ApiOp a1) (o := 2) (v := .string a1.Text) (pick5 _ _ _ _ _ _) (by kernel_rfl))) hI ?_)
        refine oP (r := [3]) [2] (S' := [(3, pb b1), (6, pb b3), (7, pb b4), (9, pb b5), (10, iv y92), (11, pb b6), (89, .string a1.Text), (90, .pointer (some ⟨b6, 2, none⟩))]) (by kernel_rfl) ?_
        have hI := hI.mono (pick2 _ _ _)
        refine oC (dS (T := 9) (b := b6) (o := 2) (v := .string a1.Text) (l := c_ApiEvent (ApiEvent.mk a1.Kind ud (⟨#[]⟩ : ByteArray) 0 0 (List.replicate 32 (0 : Int)))) (vs := ([.string a1.Text] : LV)) (L' := c_ApiEvent (ApiEvent.mk a1.Kind ud a1.Text 0 0 (List.replicate 32 (0 : Int)))) (by kernel_rfl) ty9 hI (by kernel_rfl) (by kernel_rfl) (by kernel_rfl) (by kernel_rfl) (by kernel_rfl) ?_)
        intro w hI
        refine oD ?_
        refine Qn.block_normal ?_
        have hI := hI.mono (pick5 _ _ _ _ _ _)
        have hI := hI.drop
        have e := someS h1
        subst e
        exact Qn.thenJ fun a ha => ⟨y92, (ApiEvent.mk a1.Kind ud a1.Text 0 0 (List.replicate 32 (0 : Int))), y83, y84, y85, y86, y87, y88, Z93, A89, cp90, rfl, ha.keep [3, 6, 7, 9, 10, 11] (by kernel_rfl), hI, hle94, (by kernel_rfl), hr91⟩
       ·
        rw [if_neg hb81] at h1
        refine CodT.no' (b := a1.Kind == 5) (by kernel_rfl) (by simpa using hb81) ?_
        refine cQ ?_
        refine cR [0, 1] (by kernel_rfl) ?_
        refine oP (r := []) [0, 1] (S' := [(2, iv a2), (3, pb b1), (6, pb b3), (7, pb b4), (9, pb b5), (10, iv 1), (11, pb b6), (91, .bool (a1.Kind == 6))]) (by kernel_rfl) ?_
        refine oD ?_
        refine qT ?_
        by_cases hb95 : (a1.Kind == 6) = true
        ·
         rw [if_pos hb95] at h1
         refine CodT.yes' (b := a1.Kind == 6) (by kernel_rfl) hb95 ?_
         refine cQ ?_
         refine cR [0, 1] (by kernel_rfl) ?_
         refine oP (r := [1]) [0] (S' := [(2, iv a2), (3, pb b1), (6, pb b3), (7, pb b4), (9, pb b5), (11, pb b6), (93, .agg ((([iv 0, .string (⟨#[]⟩ : ByteArray), .string (⟨#[]⟩ : ByteArray), .bool false, iv 0, .slice none 0 0] : LV))).toArray)]) (by kernel_rfl) ?_
         have hI := hI.mono (pick2 _ _ _)
         refine oC (dS (T := 27) (b := b5) (o := 0) (v := .agg ((([iv 0, .string (⟨#[]⟩ : ByteArray), .string (⟨#[]⟩ : ByteArray), .bool false, iv 0, .slice none 0 0] : LV))).toArray) (l := ([iv ud, .string ue, .string ub, .bool uf, iv ug, .slice ua uc.length uh] : LV)) (vs := (([iv 0, .string (⟨#[]⟩ : ByteArray), .string (⟨#[]⟩ : ByteArray), .bool false, iv 0, .slice none 0 0] : LV))) (L' := (([iv 0, .string (⟨#[]⟩ : ByteArray), .string (⟨#[]⟩ : ByteArray), .bool false, iv 0, .slice none 0 0] : LV))) (by kernel_rfl) ty27 hI (by kernel_rfl) (by kernel_rfl) (by kernel_rfl) (by kernel_rfl) (by kernel_rfl) ?_)
         intro w hI
         refine oD ?_
         refine qT ?_
         refine cR [0, 1, 2, 3] (by kernel_rfl) ?_
         refine oC (Does.yi (Yl.load (d := 94) (T := 27) (v := .agg ([iv ud, .string ue, .string ub, .bool uf, iv ug, .slice ua uc.length uh] : LV).toArray) (by kernel_rfl) (ldBN ty27 (l := ([iv ud, .string ue, .string ub, .bool uf, iv ug, .slice ua uc.length uh] : LV)) (o := 0) (cs := ([iv ud, .string ue, .string ub, .bool uf, iv ug, .slice ua uc.length uh] : LV)) (pick6 _ _ _ _ _ _ _) (by kernel_rfl) (whole _ _ (by kernel_rfl)))) hI ?_)
         refine oP (r := [2, 3]) [1] (S' := [(3, pb b1), (6, pb b3), (7, pb b4), (9, pb b5), (11, pb b6), (94, .agg ([iv ud, .string ue, .string ub, .bool uf, iv ug, .slice ua uc.length uh] : LV).toArray), (95, iv a2)]) (by kernel_rfl) ?_
         obtain ⟨y97, hc96, h1⟩ := bindS h1
         try dsimp only at h1
         refine oC (Does.call (d := some 96) (n := 12) (vs := [.agg ([iv ud, .string ue, .string ub, .bool uf, iv ug, .slice ua uc.length uh] : LV).toArray, iv a2]) (by kernel_rfl) en12 (c12 w0 w _ _ hI hT ud ue ub uf ug ua uh uc ui a2 _ hc96) ?_)
         rintro e w ⟨rfl, hI⟩
         refine ⟨_, rfl, ?_⟩
         refine oP (r := []) [3] (S' := [(3, pb b1), (6, pb b3), (7, pb b4), (9, pb b5), (10, iv y97), (11, pb b6)]) (by kernel_rfl) ?_
         refine oD ?_
         refine Qn.block_normal ?_
         have hI := hI.mono (pick5 _ _ _ _ _ _)
         have hI := hI.drop
         have hI := hI.mono (pick5 _ _ _ _ _ _)
         have hI := hI.mono (pick5 _ _ _ _ _ _)
         have hI := hI.mono (pick5 _ _ _ _ _ _)
         have hI := hI.mono (pick4 _ _ _ _ _)
         have hI := hI.mono (pick5 _ _ _ _ _ _)
         have e := someS h1
         subst e
         exact Qn.thenJ fun a ha => ⟨y97, (ApiEvent.mk a1.Kind ud (⟨#[]⟩ : ByteArray) 0 0 (List.replicate 32 (0 : Int))), 0, (⟨#[]⟩ : ByteArray), (⟨#[]⟩ : ByteArray), false, 0, ([] : List ByteArray), Z, none, 0, rfl, ha.keep [3, 6, 7, 9, 10, 11] (by kernel_rfl), hI, (Hp.le_refl _), (by kernel_rfl), (RdS.nil _ _ _ _ _ (Nat.zero_le _))⟩
        ·
         rw [if_neg hb95] at h1
         refine CodT.no' (b := a1.Kind == 6) (by kernel_rfl) (by simpa using hb95) ?_
         refine CodT.skip ?_
         refine Qn.block_normal ?_
         have hI := hI.mono (pick5 _ _ _ _ _ _)
         have hI := hI.drop
         have e := someS h1
         subst e
         exact Qn.thenJ fun a ha => ⟨1, (ApiEvent.mk a1.Kind ud (⟨#[]⟩ : ByteArray) 0 0 (List.replicate 32 (0 : Int))), ud, ue, ub, uf, ug, uc, Z, ua, uh, rfl, ha.keep [3, 6, 7, 9, 10, 11] (by kernel_rfl), hI, (Hp.le_refl _), (by kernel_rfl), ui⟩
 ·
  rintro a w ⟨x9, x10, x12, x13, x14, x15, x16, x17, Z7, A18, cp19, rfl, ha, hI, hle8, hl11, hr20⟩
  try dsimp only at h0
  refine CodT.of ?_ ha
  refine cQ ?_
  refine cQ ?_
  refine cR [0, 1] (by kernel_rfl) ?_
  refine oP (r := []) [0, 1] (S' := [(3, pb b1), (6, pb b3), (7, pb b4), (9, pb b5), (10, iv x9), (11, pb b6), (98, .bool (x9 != 0))]) (by kernel_rfl) ?_
  refine oD ?_
  refine qT ?_
  by_cases hb98 : (x9 != 0) = true
  ·
   rw [if_pos hb98] at h0
   refine CodT.yes' (b := x9 != 0) (by kernel_rfl) hb98 ?_
   refine cQ ?_
   refine cR [0, 1, 2, 3, 4, 5] (by kernel_rfl) ?_
   refine oC (Does.yi (Yl.load (d := 99) (T := 27) (v := .agg ([iv ud, .string ue, .string ub, .bool uf, iv ug, .slice ua uc.length uh] : LV).toArray) (by kernel_rfl) (ldBN ty27 (l := ([iv ud, .string ue, .string ub, .bool uf, iv ug, .slice ua uc.length uh] : LV)) (o := 0) (cs := ([iv ud, .string ue, .string ub, .bool uf, iv ug, .slice ua uc.length uh] : LV)) (pick5 _ _ _ _ _ _) (by kernel_rfl) (whole _ _ (by kernel_rfl)))) hI ?_)
   refine oP (r := [3, 4, 5]) [1, 2] (S' := [(6, pb b3), (7, pb b4), (99, .agg ([iv ud, .string ue, .string ub, .bool uf, iv ug, .slice ua uc.length uh] : LV).toArray), (100, .agg (c_ApiEvent (ApiEvent.mk 0 0 (⟨#[]⟩ : ByteArray) 0 0 (List.replicate 32 (0 : Int)))).toArray), (101, iv x9)]) (by kernel_rfl) ?_
   have hI := hI.mono (pick4 _ _ _ _ _)
   refine oC (dS (T := 27) (b := b3) (o := 0) (v := .agg ([iv ud, .string ue, .string ub, .bool uf, iv ug, .slice ua uc.length uh] : LV).toArray) (l := (([iv 0, .string (⟨#[]⟩ : ByteArray), .string (⟨#[]⟩ : ByteArray), .bool false, iv 0, .slice none 0 0] : LV))) (vs := ([iv ud, .string ue, .string ub, .bool uf, iv ug, .slice ua uc.length uh] : LV)) (L' := ([iv ud, .string ue, .string ub, .bool uf, iv ug, .slice ua uc.length uh] : LV)) (by kernel_rfl) ty27 hI (by kernel_rfl) (by kernel_rfl) (by kernel_rfl) (by kernel_rfl) (by kernel_rfl) ?_)
   intro w hI
   have hI := hI.mono (pick4 _ _ _ _ _)
   refine oC (dS (T := 53) (b := b4) (o := 0) (v := .agg (c_ApiEvent (ApiEvent.mk 0 0 (⟨#[]⟩ : ByteArray) 0 0 (List.replicate 32 (0 : Int)))).toArray) (l := c_ApiEvent (ApiEvent.mk 0 0 (⟨#[]⟩ : ByteArray) 0 0 (List.replicate 32 (0 : Int)))) (vs := c_ApiEvent (ApiEvent.mk 0 0 (⟨#[]⟩ : ByteArray) 0 0 (List.replicate 32 (0 : Int)))) (L' := c_ApiEvent (ApiEvent.mk 0 0 (⟨#[]⟩ : ByteArray) 0 0 (List.replicate 32 (0 : Int)))) (by kernel_rfl) ty53 hI (by kernel_rfl) (len_ApiEvent _ (by kernel_rfl)) (by rw [(len_ApiEvent _ (by kernel_rfl))]; kernel_rfl) (ones_app _ _ (by kernel_rfl) (ones_cA _)) (lset_all _ _ (Eq.trans (len_ApiEvent _ (by kernel_rfl)) (Eq.symm (len_ApiEvent _ (by kernel_rfl))))) ?_)
   intro w hI
   refine oP (r := []) [5] (S' := [(6, pb b3), (7, pb b4), (8, iv x9)]) (by kernel_rfl) ?_
   refine oD ?_
   refine qT ?_
   refine CodT.ret ?_
   refine Qn.ret_then ?_
   have hL99 := (ldBN ty27 (l := ([iv ud, .string ue, .string ub, .bool uf, iv ug, .slice ua uc.length uh] : LV)) (o := 0) (cs := ([iv ud, .string ue, .string ub, .bool uf, iv ug, .slice ua uc.length uh] : LV)) (pick2 _ _ _) (by kernel_rfl) (whole _ _ (by kernel_rfl))) w hI
   have hL100 := (ldBN ty53 (l := c_ApiEvent (ApiEvent.mk 0 0 (⟨#[]⟩ : ByteArray) 0 0 (List.replicate 32 (0 : Int)))) (o := 0) (cs := c_ApiEvent (ApiEvent.mk 0 0 (⟨#[]⟩ : ByteArray) 0 0 (List.replicate 32 (0 : Int)))) (ent_refl _) (len_ApiEvent _ (by kernel_rfl)) (whole _ _ (len_ApiEvent _ (by kernel_rfl)))) w hI
   have hI := hI.drop
   have hI := hI.drop
   have hI := hI.drop
   have hI := hI.drop
   have hI := hI.drop
   have e := someS h0
   subst e
   refine qK [6, 7, 8] (S' := [(6, pb b3), (7, pb b4), (8, iv x9)]) (by kernel_rfl) ?_
   exact post_ret (v := .tuple #[.agg ([iv ud, .string ue, .string ub, .bool uf, iv ug, .slice ua uc.length uh] : LV).toArray, .agg (c_ApiEvent (ApiEvent.mk 0 0 (⟨#[]⟩ : ByteArray) 0 0 (List.replicate 32 (0 : Int)))).toArray, iv x9]) (fun a ha => RunRes.run (vs := [.agg ([iv ud, .string ue, .string ub, .bool uf, iv ug, .slice ua uc.length uh] : LV).toArray, .agg (c_ApiEvent (ApiEvent.mk 0 0 (⟨#[]⟩ : ByteArray) 0 0 (List.replicate 32 (0 : Int)))).toArray, iv x9]) (.cell (t := 6) (T := 27) (ad := ⟨b3, 0, none⟩) (by kernel_rfl) hL99 (.cell (t := 7) (T := 53) (ad := ⟨b4, 0, none⟩) (by kernel_rfl) hL100 (.tmp (t := 8) (by kernel_rfl) .nil))) ha (by kernel_rfl)) ⟨ua, uh, Z7, hle8, rfl, (ui.mono hle8), (by kernel_rfl), hI⟩
  ·
   rw [if_neg hb98] at h0
   refine CodT.no' (b := x9 != 0) (by kernel_rfl) (by simpa using hb98) ?_
   refine CodT.skip ?_
   refine qT ?_
   refine cQ ?_
   refine CodT.drawC (n := 5) (B := (star (pt b6 (.cells (c_ApiEvent x10).toArray 53 (0, 0))) (star (pt b5 (.cells ([iv x12, .string x13, .string x14, .bool x15, iv x16, .slice A18 x17.length cp19] : LV).toArray 27 (0, 0))) (star (pt b1 (.cells ([iv ud, .string ue, .string ub, .bool uf, iv ug, .slice ua uc.length uh] : LV).toArray 27 (0, 0))) A)))) [] (by kernel_rfl) (by kernel_rfl) hI ?_
   intro w hI
   have hC := hI
   have hC := hC.mono (pick3 _ _ _ _)
   have hC := hC.drop
   have hC := hC.mono (pick3 _ _ _ _)
   have hC := hC.drop
   refine GmT.r (i := 0) 2 (by kernel_rfl) (by kernel_rfl) (Yl.load (d := 102) (T := 27) (v := .agg ([iv x12, .string x13, .string x14, .bool x15, iv x16, .slice A18 x17.length cp19] : LV).toArray) (by kernel_rfl) (ldBN ty27 (l := ([iv x12, .string x13, .string x14, .bool x15, iv x16, .slice A18 x17.length cp19] : LV)) (o := 0) (cs := ([iv x12, .string x13, .string x14, .bool x15, iv x16, .slice A18 x17.length cp19] : LV)) (pick2 _ _ _) (by kernel_rfl) (whole _ _ (by kernel_rfl)))) hC ?_
   have hC := hI
   have hC := hC.mono (pick3 _ _ _ _)
   have hC := hC.drop
   have hC := hC.mono (pick3 _ _ _ _)
   have hC := hC.drop
   refine GmT.r (i := 1) 2 (by kernel_rfl) (by kernel_rfl) (Yl.load (d := 103) (T := 53) (v := .agg (c_ApiEvent x10).toArray) (by kernel_rfl) (ldBN ty53 (l := c_ApiEvent x10) (o := 0) (cs := c_ApiEvent x10) (ent_refl _) (len_ApiEvent _ hl11) (whole _ _ (len_ApiEvent _ hl11)))) hC ?_
   have hI := hI.mono (pick4 _ _ _ _ _)
   refine GmT.o (i := 2) (by kernel_rfl) (dS (T := 27) (b := b3) (o := 0) (v := .agg ([iv x12, .string x13, .string x14, .bool x15, iv x16, .slice A18 x17.length cp19] : LV).toArray) (l := (([iv 0, .string (⟨#[]⟩ : ByteArray), .string (⟨#[]⟩ : ByteArray), .bool false, iv 0, .slice none 0 0] : LV))) (vs := ([iv x12, .string x13, .string x14, .bool x15, iv x16, .slice A18 x17.length cp19] : LV)) (L' := ([iv x12, .string x13, .string x14, .bool x15, iv x16, .slice A18 x17.length cp19] : LV)) (by kernel_rfl) ty27 hI (by kernel_rfl) (by kernel_rfl) (by kernel_rfl) (by kernel_rfl) (by kernel_rfl) ?_)
   intro w hI
   have hC := hI
   have hC := hC.drop
   have hC := hC.mono (pick3 _ _ _ _)
   have hC := hC.drop
   refine ⟨fun _ _ => hC, ?_⟩
   have hI := hI.mono (pick4 _ _ _ _ _)
   refine GmT.o (i := 3) (by kernel_rfl) (dS (T := 53) (b := b4) (o := 0) (v := .agg (c_ApiEvent x10).toArray) (l := c_ApiEvent (ApiEvent.mk 0 0 (⟨#[]⟩ : ByteArray) 0 0 (List.replicate 32 (0 : Int)))) (vs := c_ApiEvent x10) (L' := c_ApiEvent x10) (by kernel_rfl) ty53 hI (by kernel_rfl) (len_ApiEvent _ hl11) (by rw [(len_ApiEvent _ (by kernel_rfl))]; kernel_rfl) (ones_app _ _ (by kernel_rfl) (ones_cA _)) (lset_all _ _ (Eq.trans (len_ApiEvent _ hl11) (Eq.symm (len_ApiEvent _ (by kernel_rfl))))) ?_)
   intro w hI
   have hC := hI
   have hC := hC.drop
   have hC := hC.drop
   refine ⟨fun _ _ => hC, ?_⟩
   refine GmT.p' 4 8 (iv 0) (by kernel_rfl) (by kernel_rfl) ?_
   refine GmT.done (by kernel_rfl) ?_
   refine qT ?_
   refine CodT.ret ?_
   have hL101 := (ldBN ty27 (l := ([iv x12, .string x13, .string x14, .bool x15, iv x16, .slice A18 x17.length cp19] : LV)) (o := 0) (cs := ([iv x12, .string x13, .string x14, .bool x15, iv x16, .slice A18 x17.length cp19] : LV)) (pick2 _ _ _) (by kernel_rfl) (whole _ _ (by kernel_rfl))) w hI
   have hL102 := (ldBN ty53 (l := c_ApiEvent x10) (o := 0) (cs := c_ApiEvent x10) (ent_refl _) (len_ApiEvent _ hl11) (whole _ _ (len_ApiEvent _ hl11))) w hI
   have hI := hI.drop
   have hI := hI.drop
   have hI := hI.drop
   have hI := hI.drop
   have hI := hI.drop
   have e := someS h0
   subst e
   refine qK [6, 7, 8] (S' := [(6, pb b3), (7, pb b4), (8, iv 0)]) (by kernel_rfl) ?_
   exact post_ret (v := .tuple #[.agg ([iv x12, .string x13, .string x14, .bool x15, iv x16, .slice A18 x17.length cp19] : LV).toArray, .agg (c_ApiEvent x10).toArray, iv 0]) (fun a ha => RunRes.run (vs := [.agg ([iv x12, .string x13, .string x14, .bool x15, iv x16, .slice A18 x17.length cp19] : LV).toArray, .agg (c_ApiEvent x10).toArray, iv 0]) (.cell (t := 6) (T := 27) (ad := ⟨b3, 0, none⟩) (by kernel_rfl) hL101 (.cell (t := 7) (T := 53) (ad := ⟨b4, 0, none⟩) (by kernel_rfl) hL102 (.tmp (t := 8) (by kernel_rfl) .nil))) ha (by kernel_rfl)) ⟨A18, cp19, Z7, hle8, rfl, hr20, hl11, hI⟩
end Go.Cen
