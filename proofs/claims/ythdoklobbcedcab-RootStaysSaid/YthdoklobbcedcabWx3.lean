/- That the machine computes these: walks, printed by a program of ours. -/
import Derived.Test.YthdoklobbcedcabPx
import Derived.Test.YthdoklobbcedcabWx2
set_option linter.unusedVariables false
set_option linter.unusedSimpArgs false
namespace Go.Cen
set_option maxRecDepth 100000 in
set_option maxHeartbeats 4000000 in
/-- cenotaph/cenotaphref15.Valid -/
theorem c11 (w0 w : World) (Z : Hp) (A : HP) (hI : Inv w0 Z w A) (A_a0_Map : Option Addr) (c_a0_Map : Nat) (a0_Map : (List Ref15Entry)) (hr_a0_Map : RdS Z c_Ref15Entry 4 A_a0_Map c_a0_Map a0_Map) (A_a0_Gone : Option Addr) (c_a0_Gone : Nat) (a0_Gone : (List Int)) (hr_a0_Gone : RdS Z (cI .i64) 1 A_a0_Gone c_a0_Gone a0_Gone) (r : Bool) (h0 : ref15_Valid a0_Map a0_Gone = some r) :
    Calls prog 11 #[.agg ((([.slice A_a0_Map a0_Map.length c_a0_Map, .slice A_a0_Gone a0_Gone.length c_a0_Gone] : List Value))).toArray] w (fun e w' => e = .returned (.bool r) ∧ Inv w0 Z w' A) := by
  have e4 := calls_intro (R := (fun e w' => e = .returned (.bool r) ∧ Inv w0 Z w' A)) (w := w) (args := [.agg ((([.slice A_a0_Map a0_Map.length c_a0_Map, .slice A_a0_Gone a0_Gone.length c_a0_Gone] : List Value))).toArray]) (fn := Go.Proofs.Try.f11) 121 Go.Proofs.Try.func11 (by rfl) Go.Proofs.Try.ntmps11 (by kernel_rfl)
  refine e4 ?_
  clear e4
  unfold ref15_Valid at h0
  refine CodT.seq ?_
  refine CodT.regionL [0, 1] (by kernel_rfl) ?_
  refine OpsT.cons (Does.boxL (d := 1) (T := 30) (v := .agg ((([.slice A_a0_Map a0_Map.length c_a0_Map, .slice A_a0_Gone a0_Gone.length c_a0_Gone] : List Value))).toArray) ((([.slice A_a0_Map a0_Map.length c_a0_Map, .slice A_a0_Gone a0_Gone.length c_a0_Gone] : List Value))) (by kernel_rfl) hI (by kernel_rfl) ?_)
  intro b1 w hI
  refine OpsT.pures (r := []) [1] [1] (S' := [(1, .pointer (some ⟨b1, 0, none⟩))]) (by kernel_rfl) ?_
  refine OpsT.done ?_
  refine Qn.then ?_
  refine CodT.seq ?_
  obtain ⟨r1, h1, h0⟩ := bindS h0
  refine CodT.meet (fun a w => ∃ (x2 : Bool), x2 = r1 ∧ Fr 121 [(1, .pointer (some ⟨b1, 0, none⟩)), (15, .bool x2)] a ∧ Inv w0 Z w (star (pt b1 (.cells ((([.slice A_a0_Map a0_Map.length c_a0_Map, .slice A_a0_Gone a0_Gone.length c_a0_Gone] : List Value))).toArray 30 (0, 0))) A)) ?_ ?_
  ·
    refine CodT.regionL [0, 1, 2, 3, 4, 5, 6, 7, 8, 9] (by kernel_rfl) ?_
    refine OpsT.pures (r := [1, 2, 3, 4, 5, 6, 7, 8, 9]) [0] [1, 6] (S' := [(1, .pointer (some ⟨b1, 0, none⟩)), (6, .pointer (some ⟨b1, 0, none⟩))]) (by kernel_rfl) ?_
    refine OpsT.cons (Does.yi (Yl.load (d := 7) (T := 28) (v := .slice A_a0_Map a0_Map.length c_a0_Map) (by kernel_rfl) (ldB ty28 (l := (([.slice A_a0_Map a0_Map.length c_a0_Map, .slice A_a0_Gone a0_Gone.length c_a0_Gone] : List Value))) (o := 0) (v := .slice A_a0_Map a0_Map.length c_a0_Map) (ent_refl _) (by kernel_rfl))) hI ?_)
    refine OpsT.pures (r := [5, 6, 7, 8, 9]) [2, 3, 4] [1, 10] (S' := [(1, .pointer (some ⟨b1, 0, none⟩)), (10, .bool (decide ((a0_Map.length : Int) > 400)))]) (by kernel_rfl) ?_
    by_cases hb3 : (decide ((a0_Map.length : Int) > 400)) = true
    · rw [if_pos hb3] at h1
      refine OpsT.keep [1, 10] (S' := [(1, .pointer (some ⟨b1, 0, none⟩)), (10, .bool true)]) (by simp only [hb3]; kernel_rfl) ?_
      refine OpsT.pures (r := []) [5, 6, 7, 8, 9] [1, 15] (S' := [(1, .pointer (some ⟨b1, 0, none⟩)), (15, .bool true)]) (by kernel_rfl) ?_
      refine OpsT.done ?_
      have e := someS h1
      subst e
      exact Qn.thenJ fun a ha => ⟨true, rfl, ha.keep [1, 15] (by kernel_rfl), hI⟩
    · rw [if_neg hb3] at h1
      have hb3 : (decide ((a0_Map.length : Int) > 400)) = false := by simpa using hb3
      refine OpsT.keep [1, 10] (S' := [(1, .pointer (some ⟨b1, 0, none⟩)), (10, .bool false)]) (by simp only [hb3]; kernel_rfl) ?_
      refine OpsT.pures (r := [6, 7, 8, 9]) [5] [1, 10, 11] (S' := [(1, .pointer (some ⟨b1, 0, none⟩)), (10, .bool false), (11, .pointer (some ⟨b1, 1, none⟩))]) (by kernel_rfl) ?_
      refine OpsT.cons (Does.yi (Yl.load (d := 12) (T := 23) (v := .slice A_a0_Gone a0_Gone.length c_a0_Gone) (by kernel_rfl) (ldB ty23 (l := (([.slice A_a0_Map a0_Map.length c_a0_Map, .slice A_a0_Gone a0_Gone.length c_a0_Gone] : List Value))) (o := 1) (v := .slice A_a0_Gone a0_Gone.length c_a0_Gone) (ent_refl _) (by kernel_rfl))) hI ?_)
      refine OpsT.pures (r := []) [7, 8, 9] [1, 15] (S' := [(1, .pointer (some ⟨b1, 0, none⟩)), (15, .bool (decide ((a0_Gone.length : Int) > 100)))]) (by kernel_rfl) ?_
      refine OpsT.done ?_
      have e := someS h1
      subst e
      exact Qn.thenJ fun a ha => ⟨decide ((a0_Gone.length : Int) > 100), rfl, ha.keep [1, 15] (by kernel_rfl), hI⟩
  ·
    rintro a w ⟨x2, rfl, ha, hI⟩
    try dsimp only at h0
    refine CodT.of ?_ ha
    by_cases hb4 : x2 = true
    · rw [if_pos hb4] at h0
      refine CodT.yes' (b := x2) (by kernel_rfl) hb4 ?_
      refine CodT.seq ?_
      refine CodT.regionL [0] (by kernel_rfl) ?_
      refine OpsT.pures (r := []) [0] [2] (S' := [(2, .bool false)]) (by kernel_rfl) ?_
      refine OpsT.done ?_
      refine Qn.then ?_
      refine CodT.ret ?_
      refine Qn.ret_then ?_
      have hI := hI.drop
      have e := someS h0
      subst e
      refine Qn.keep [2] (S' := [(2, .bool false)]) (by kernel_rfl) ?_
      exact post_ret (v := .bool false) (fun a ha => RunRes.run (vs := [.bool false]) (.tmp (t := 2) (by kernel_rfl) .nil) ha (by kernel_rfl)) ⟨rfl, hI⟩
    · rw [if_neg hb4] at h0
      refine CodT.no' (b := x2) (by kernel_rfl) (by simpa using hb4) ?_
      refine CodT.skip ?_
      refine Qn.then ?_
      refine CodT.seq ?_
      refine CodT.seq ?_
      refine CodT.regionL [0] (by kernel_rfl) ?_
      refine OpsT.pures (r := []) [0] [1, 3] (S' := [(1, .pointer (some ⟨b1, 0, none⟩)), (3, .int .i64 0)]) (by kernel_rfl) ?_
      refine OpsT.done ?_
      refine Qn.then ?_
      obtain ⟨r1, h1, h0⟩ := bindS h0
      refine CodT.meet1 (fun a w => .inr () = r1 ∧ Fr 121 [(1, .pointer (some ⟨b1, 0, none⟩))] a ∧ Inv w0 Z w (star (pt b1 (.cells ((([.slice A_a0_Map a0_Map.length c_a0_Map, .slice A_a0_Gone a0_Gone.length c_a0_Gone] : List Value))).toArray 30 (0, 0))) A)) ?_ ?_
      ·
        refine CodT.block ?_
        refine (fun a ha => wp_loopN (fun k a w => ∃ (x5 : Int), ref15_Valid.l0 a0_Map k x5 = some r1 ∧ Fr 121 [(1, .pointer (some ⟨b1, 0, none⟩)), (3, .int .i64 x5)] a ∧ Inv w0 Z w (star (pt b1 (.cells ((([.slice A_a0_Map a0_Map.length c_a0_Map, .slice A_a0_Gone a0_Gone.length c_a0_Gone] : List Value))).toArray 30 (0, 0))) A)) ?_ FU a w ⟨0, h1, ha.keep [1, 3] (by kernel_rfl), hI⟩)
        clear h1 hI
        rintro k a w ⟨x5, h1, ha, hI⟩
        rcases k with _ | k
        · cases h1
        simp only [ref15_Valid.l0] at h1
        refine CodT.of ?_ ha
        refine CodT.seq ?_
        refine CodT.seq ?_
        refine CodT.regionL [0, 1, 2, 3, 4] (by kernel_rfl) ?_
        refine OpsT.pures (r := [2, 3, 4]) [0, 1] [1, 3, 16, 17] (S' := [(1, .pointer (some ⟨b1, 0, none⟩)), (3, .int .i64 x5), (16, .int .i64 x5), (17, .pointer (some ⟨b1, 0, none⟩))]) (by kernel_rfl) ?_
        refine OpsT.cons (Does.yi (Yl.load (d := 18) (T := 28) (v := .slice A_a0_Map a0_Map.length c_a0_Map) (by kernel_rfl) (ldB ty28 (l := (([.slice A_a0_Map a0_Map.length c_a0_Map, .slice A_a0_Gone a0_Gone.length c_a0_Gone] : List Value))) (o := 0) (v := .slice A_a0_Map a0_Map.length c_a0_Map) (ent_refl _) (by kernel_rfl))) hI ?_)
        refine OpsT.pures (r := []) [3, 4] [1, 3, 20] (S' := [(1, .pointer (some ⟨b1, 0, none⟩)), (3, .int .i64 x5), (20, .bool (decide (x5 < (a0_Map.length : Int))))]) (by kernel_rfl) ?_
        refine OpsT.done ?_
        refine Qn.then ?_
        by_cases hb6 : (decide (x5 < (a0_Map.length : Int))) = true
        · rw [if_pos hb6] at h1
          refine CodT.yes' (b := decide (x5 < (a0_Map.length : Int))) (by kernel_rfl) hb6 ?_
          refine CodT.skip ?_
          refine Qn.then ?_
          refine CodT.seq ?_
          refine CodT.block ?_
          refine CodT.seq ?_
          refine CodT.regionL [0, 1, 2, 3, 4, 5, 6] (by kernel_rfl) ?_
          refine OpsT.pures (r := [1, 2, 3, 4, 5, 6]) [0] [1, 3, 23] (S' := [(1, .pointer (some ⟨b1, 0, none⟩)), (3, .int .i64 x5), (23, .pointer (some ⟨b1, 0, none⟩))]) (by kernel_rfl) ?_
          refine OpsT.cons (Does.yi (Yl.load (d := 24) (T := 28) (v := .slice A_a0_Map a0_Map.length c_a0_Map) (by kernel_rfl) (ldB ty28 (l := (([.slice A_a0_Map a0_Map.length c_a0_Map, .slice A_a0_Gone a0_Gone.length c_a0_Gone] : List Value))) (o := 0) (v := .slice A_a0_Map a0_Map.length c_a0_Map) (ent_refl _) (by kernel_rfl))) hI ?_)
          refine OpsT.pures (r := [3, 4, 5, 6]) [2] [1, 3, 24, 25] (S' := [(1, .pointer (some ⟨b1, 0, none⟩)), (3, .int .i64 x5), (24, .slice A_a0_Map a0_Map.length c_a0_Map), (25, .int .i64 x5)]) (by kernel_rfl) ?_
          obtain ⟨hg7, h1⟩ := guardS h1
          obtain ⟨g8, o12, hA9, hr10, hl11⟩ := RdS.get hr_a0_Map hg7.1 hg7.2
          refine OpsT.cons (Does.yi (Yl.indexSlice (d := 26) (T := 28) (cc := c_a0_Map) (k := .i64) (j := x5) (g := g8) (o := o12) (by kernel_rfl) Go.Proofs.Try.underlying28 ty69 hA9 hg7.1 hg7.2) hI ?_)
          refine OpsT.cons (Does.yi (Yl.load (d := 27) (T := 69) (v := .agg (c_Ref15Entry (gt a0_Map x5)).toArray) (by kernel_rfl) (ldRN ty69 (cs := c_Ref15Entry (gt a0_Map x5)) 0 (fun w hC => hr10 w0 w _ hC) hl11 (whole _ _ hl11))) hI ?_)
          refine OpsT.cons (Does.allocL (d := 4) (T := 69) (c_Ref15Entry (Ref15Entry.mk 0 0 0 0)) (by kernel_rfl) ty69 hI (by kernel_rfl) ?_)
          intro b13 w hI
          refine OpsT.cons (Does.storeLit (T := 69) (b := b13) (o := 0) (v := .agg (c_Ref15Entry (gt a0_Map x5)).toArray) (l := c_Ref15Entry (Ref15Entry.mk 0 0 0 0)) (vs := c_Ref15Entry (gt a0_Map x5)) (L' := c_Ref15Entry (gt a0_Map x5)) (by kernel_rfl) ty69 hI (by kernel_rfl) (by kernel_rfl) (by kernel_rfl) (by kernel_rfl) (by kernel_rfl) ?_)
          intro w hI
          refine OpsT.done ?_
          refine Qn.then ?_
          obtain ⟨r2, h2, h1⟩ := bindS h1
          refine CodT.meet (fun a w => ∃ (x14 : Bool), x14 = r2 ∧ Fr 121 [(1, .pointer (some ⟨b1, 0, none⟩)), (3, .int .i64 x5), (81, .bool x14)] a ∧ Inv w0 Z w (star (pt b1 (.cells ((([.slice A_a0_Map a0_Map.length c_a0_Map, .slice A_a0_Gone a0_Gone.length c_a0_Gone] : List Value))).toArray 30 (0, 0))) A)) ?_ ?_
          ·
            refine CodT.drawI (n := 54) [] (by kernel_rfl) (by kernel_rfl) hI ?_
            intro w hI
            refine GmT.p' 0 28 (.pointer (some ⟨b13, 0, none⟩)) (by kernel_rfl) (by kernel_rfl) ?_
            refine GmT.r (i := 1) 2 (by kernel_rfl) (by kernel_rfl) (Yl.load (d := 29) (T := 3) (v := .int .i64 ((gt a0_Map x5).Logic)) (by kernel_rfl) (ldB ty3 (l := c_Ref15Entry (gt a0_Map x5)) (o := 0) (v := .int .i64 ((gt a0_Map x5).Logic)) (ent_refl _) (by kernel_rfl))) hI ?_
            refine GmT.p' 2 30 (.bool (decide (((gt a0_Map x5).Logic) < 0))) (by kernel_rfl) (by kernel_rfl) ?_
            refine GmT.p' 3 31 (.bool (decide (((gt a0_Map x5).Logic) < 0))) (by kernel_rfl) (by kernel_rfl) ?_
            by_cases hb15 : (decide (((gt a0_Map x5).Logic) < 0)) = true
            · rw [if_pos hb15] at h2
              refine GmT.keep [1, 3, 4, 31] (S' := [(1, .pointer (some ⟨b1, 0, none⟩)), (3, .int .i64 x5), (4, .pointer (some ⟨b13, 0, none⟩)), (31, .bool true)]) (by simp only [hb15]; kernel_rfl) ?_
              refine GmT.p' 4 32 (undef) (by kernel_rfl) (by kernel_rfl) ?_
              refine GmT.p' 5 33 (undef) (by kernel_rfl) (by kernel_rfl) ?_
              refine GmT.p' 6 34 (undef) (by kernel_rfl) (by kernel_rfl) ?_
              refine GmT.p' 7 35 (.bool true) (by kernel_rfl) (by kernel_rfl) ?_
              refine GmT.p' 8 36 (.bool true) (by kernel_rfl) (by kernel_rfl) ?_
              refine GmT.p' 9 37 (undef) (by kernel_rfl) (by kernel_rfl) ?_
              refine GmT.p' 10 38 (undef) (by kernel_rfl) (by kernel_rfl) ?_
              refine GmT.p' 11 39 (undef) (by kernel_rfl) (by kernel_rfl) ?_
              refine GmT.p' 12 40 (.bool true) (by kernel_rfl) (by kernel_rfl) ?_
              refine GmT.p' 13 41 (.bool true) (by kernel_rfl) (by kernel_rfl) ?_
              refine GmT.p' 14 42 (undef) (by kernel_rfl) (by kernel_rfl) ?_
              refine GmT.p' 15 43 (undef) (by kernel_rfl) (by kernel_rfl) ?_
              refine GmT.p' 16 44 (undef) (by kernel_rfl) (by kernel_rfl) ?_
              refine GmT.p' 17 45 (.bool true) (by kernel_rfl) (by kernel_rfl) ?_
              refine GmT.p' 18 46 (.bool true) (by kernel_rfl) (by kernel_rfl) ?_
              refine GmT.p' 19 47 (undef) (by kernel_rfl) (by kernel_rfl) ?_
              refine GmT.p' 20 48 (undef) (by kernel_rfl) (by kernel_rfl) ?_
              refine GmT.p' 21 49 (undef) (by kernel_rfl) (by kernel_rfl) ?_
              refine GmT.p' 22 50 (.bool true) (by kernel_rfl) (by kernel_rfl) ?_
              refine GmT.p' 23 51 (.bool true) (by kernel_rfl) (by kernel_rfl) ?_
              refine GmT.p' 24 52 (undef) (by kernel_rfl) (by kernel_rfl) ?_
              refine GmT.p' 25 53 (undef) (by kernel_rfl) (by kernel_rfl) ?_
              refine GmT.p' 26 54 (undef) (by kernel_rfl) (by kernel_rfl) ?_
              refine GmT.p' 27 55 (.bool true) (by kernel_rfl) (by kernel_rfl) ?_
              refine GmT.p' 28 56 (.bool true) (by kernel_rfl) (by kernel_rfl) ?_
              refine GmT.p' 29 57 (undef) (by kernel_rfl) (by kernel_rfl) ?_
              refine GmT.p' 30 58 (undef) (by kernel_rfl) (by kernel_rfl) ?_
              refine GmT.p' 31 59 (undef) (by kernel_rfl) (by kernel_rfl) ?_
              refine GmT.p' 32 60 (.bool true) (by kernel_rfl) (by kernel_rfl) ?_
              refine GmT.p' 33 61 (.bool true) (by kernel_rfl) (by kernel_rfl) ?_
              refine GmT.p' 34 62 (undef) (by kernel_rfl) (by kernel_rfl) ?_
              refine GmT.p' 35 63 (undef) (by kernel_rfl) (by kernel_rfl) ?_
              refine GmT.p' 36 64 (undef) (by kernel_rfl) (by kernel_rfl) ?_
              refine GmT.p' 37 65 (.bool true) (by kernel_rfl) (by kernel_rfl) ?_
              refine GmT.p' 38 66 (.bool true) (by kernel_rfl) (by kernel_rfl) ?_
              refine GmT.p' 39 67 (undef) (by kernel_rfl) (by kernel_rfl) ?_
              refine GmT.p' 40 68 (undef) (by kernel_rfl) (by kernel_rfl) ?_
              refine GmT.p' 41 69 (undef) (by kernel_rfl) (by kernel_rfl) ?_
              refine GmT.p' 42 70 (undef) (by kernel_rfl) (by kernel_rfl) ?_
              refine GmT.p' 43 71 (undef) (by kernel_rfl) (by kernel_rfl) ?_
              refine GmT.p' 44 72 (undef) (by kernel_rfl) (by kernel_rfl) ?_
              refine GmT.p' 45 73 (undef) (by kernel_rfl) (by kernel_rfl) ?_
              refine GmT.p' 46 74 (undef) (by kernel_rfl) (by kernel_rfl) ?_
              refine GmT.p' 47 75 (undef) (by kernel_rfl) (by kernel_rfl) ?_
              refine GmT.p' 48 76 (undef) (by kernel_rfl) (by kernel_rfl) ?_
              refine GmT.p' 49 77 (undef) (by kernel_rfl) (by kernel_rfl) ?_
              refine GmT.p' 50 78 (undef) (by kernel_rfl) (by kernel_rfl) ?_
              refine GmT.p' 51 79 (undef) (by kernel_rfl) (by kernel_rfl) ?_
              refine GmT.p' 52 80 (undef) (by kernel_rfl) (by kernel_rfl) ?_
              refine GmT.p' 53 81 (.bool true) (by kernel_rfl) (by kernel_rfl) ?_
              refine GmT.done (by kernel_rfl) ?_
              have hI := hI.drop
              have e := someS h2
              subst e
              exact Qn.thenJ fun a ha => ⟨true, rfl, ha.keep [1, 3, 81] (by kernel_rfl), hI⟩
            · rw [if_neg hb15] at h2
              have hb15 : (decide (((gt a0_Map x5).Logic) < 0)) = false := by simpa using hb15
              refine GmT.keep [1, 3, 4, 31] (S' := [(1, .pointer (some ⟨b1, 0, none⟩)), (3, .int .i64 x5), (4, .pointer (some ⟨b13, 0, none⟩)), (31, .bool false)]) (by simp only [hb15]; kernel_rfl) ?_
              refine GmT.p' 4 32 (.pointer (some ⟨b13, 0, none⟩)) (by kernel_rfl) (by kernel_rfl) ?_
              refine GmT.r (i := 5) 2 (by kernel_rfl) (by kernel_rfl) (Yl.load (d := 33) (T := 3) (v := .int .i64 ((gt a0_Map x5).Logic)) (by kernel_rfl) (ldB ty3 (l := c_Ref15Entry (gt a0_Map x5)) (o := 0) (v := .int .i64 ((gt a0_Map x5).Logic)) (ent_refl _) (by kernel_rfl))) hI ?_
              refine GmT.p' 6 34 (.bool (decide (((gt a0_Map x5).Logic) > 1099511627776))) (by kernel_rfl) (by kernel_rfl) ?_
              refine GmT.p' 7 35 (.bool (decide (((gt a0_Map x5).Logic) > 1099511627776))) (by kernel_rfl) (by kernel_rfl) ?_
              refine GmT.p' 8 36 (.bool (decide (((gt a0_Map x5).Logic) > 1099511627776))) (by kernel_rfl) (by kernel_rfl) ?_
              by_cases hb16 : (decide (((gt a0_Map x5).Logic) > 1099511627776)) = true
              · rw [if_pos hb16] at h2
                refine GmT.keep [1, 3, 4, 36] (S' := [(1, .pointer (some ⟨b1, 0, none⟩)), (3, .int .i64 x5), (4, .pointer (some ⟨b13, 0, none⟩)), (36, .bool true)]) (by simp only [hb16]; kernel_rfl) ?_
                refine GmT.p' 9 37 (undef) (by kernel_rfl) (by kernel_rfl) ?_
                refine GmT.p' 10 38 (undef) (by kernel_rfl) (by kernel_rfl) ?_
                refine GmT.p' 11 39 (undef) (by kernel_rfl) (by kernel_rfl) ?_
                refine GmT.p' 12 40 (.bool true) (by kernel_rfl) (by kernel_rfl) ?_
                refine GmT.p' 13 41 (.bool true) (by kernel_rfl) (by kernel_rfl) ?_
                refine GmT.p' 14 42 (undef) (by kernel_rfl) (by kernel_rfl) ?_
                refine GmT.p' 15 43 (undef) (by kernel_rfl) (by kernel_rfl) ?_
                refine GmT.p' 16 44 (undef) (by kernel_rfl) (by kernel_rfl) ?_
                refine GmT.p' 17 45 (.bool true) (by kernel_rfl) (by kernel_rfl) ?_
                refine GmT.p' 18 46 (.bool true) (by kernel_rfl) (by kernel_rfl) ?_
                refine GmT.p' 19 47 (undef) (by kernel_rfl) (by kernel_rfl) ?_
                refine GmT.p' 20 48 (undef) (by kernel_rfl) (by kernel_rfl) ?_
                refine GmT.p' 21 49 (undef) (by kernel_rfl) (by kernel_rfl) ?_
                refine GmT.p' 22 50 (.bool true) (by kernel_rfl) (by kernel_rfl) ?_
                refine GmT.p' 23 51 (.bool true) (by kernel_rfl) (by kernel_rfl) ?_
                refine GmT.p' 24 52 (undef) (by kernel_rfl) (by kernel_rfl) ?_
                refine GmT.p' 25 53 (undef) (by kernel_rfl) (by kernel_rfl) ?_
                refine GmT.p' 26 54 (undef) (by kernel_rfl) (by kernel_rfl) ?_
                refine GmT.p' 27 55 (.bool true) (by kernel_rfl) (by kernel_rfl) ?_
                refine GmT.p' 28 56 (.bool true) (by kernel_rfl) (by kernel_rfl) ?_
                refine GmT.p' 29 57 (undef) (by kernel_rfl) (by kernel_rfl) ?_
                refine GmT.p' 30 58 (undef) (by kernel_rfl) (by kernel_rfl) ?_
                refine GmT.p' 31 59 (undef) (by kernel_rfl) (by kernel_rfl) ?_
                refine GmT.p' 32 60 (.bool true) (by kernel_rfl) (by kernel_rfl) ?_
                refine GmT.p' 33 61 (.bool true) (by kernel_rfl) (by kernel_rfl) ?_
                refine GmT.p' 34 62 (undef) (by kernel_rfl) (by kernel_rfl) ?_
                refine GmT.p' 35 63 (undef) (by kernel_rfl) (by kernel_rfl) ?_
                refine GmT.p' 36 64 (undef) (by kernel_rfl) (by kernel_rfl) ?_
                refine GmT.p' 37 65 (.bool true) (by kernel_rfl) (by kernel_rfl) ?_
                refine GmT.p' 38 66 (.bool true) (by kernel_rfl) (by kernel_rfl) ?_
                refine GmT.p' 39 67 (undef) (by kernel_rfl) (by kernel_rfl) ?_
                refine GmT.p' 40 68 (undef) (by kernel_rfl) (by kernel_rfl) ?_
                refine GmT.p' 41 69 (undef) (by kernel_rfl) (by kernel_rfl) ?_
                refine GmT.p' 42 70 (undef) (by kernel_rfl) (by kernel_rfl) ?_
                refine GmT.p' 43 71 (undef) (by kernel_rfl) (by kernel_rfl) ?_
                refine GmT.p' 44 72 (undef) (by kernel_rfl) (by kernel_rfl) ?_
                refine GmT.p' 45 73 (undef) (by kernel_rfl) (by kernel_rfl) ?_
                refine GmT.p' 46 74 (undef) (by kernel_rfl) (by kernel_rfl) ?_
                refine GmT.p' 47 75 (undef) (by kernel_rfl) (by kernel_rfl) ?_
                refine GmT.p' 48 76 (undef) (by kernel_rfl) (by kernel_rfl) ?_
                refine GmT.p' 49 77 (undef) (by kernel_rfl) (by kernel_rfl) ?_
                refine GmT.p' 50 78 (undef) (by kernel_rfl) (by kernel_rfl) ?_
                refine GmT.p' 51 79 (undef) (by kernel_rfl) (by kernel_rfl) ?_
                refine GmT.p' 52 80 (undef) (by kernel_rfl) (by kernel_rfl) ?_
                refine GmT.p' 53 81 (.bool true) (by kernel_rfl) (by kernel_rfl) ?_
                refine GmT.done (by kernel_rfl) ?_
                have hI := hI.drop
                have e := someS h2
                subst e
                exact Qn.thenJ fun a ha => ⟨true, rfl, ha.keep [1, 3, 81] (by kernel_rfl), hI⟩
              · rw [if_neg hb16] at h2
                have hb16 : (decide (((gt a0_Map x5).Logic) > 1099511627776)) = false := by simpa using hb16
                refine GmT.keep [1, 3, 4, 36] (S' := [(1, .pointer (some ⟨b1, 0, none⟩)), (3, .int .i64 x5), (4, .pointer (some ⟨b13, 0, none⟩)), (36, .bool false)]) (by simp only [hb16]; kernel_rfl) ?_
                refine GmT.p' 9 37 (.pointer (some ⟨b13, 1, none⟩)) (by kernel_rfl) (by kernel_rfl) ?_
                refine GmT.r (i := 10) 2 (by kernel_rfl) (by kernel_rfl) (Yl.load (d := 38) (T := 3) (v := .int .i64 ((gt a0_Map x5).Owner)) (by kernel_rfl) (ldB ty3 (l := c_Ref15Entry (gt a0_Map x5)) (o := 1) (v := .int .i64 ((gt a0_Map x5).Owner)) (ent_refl _) (by kernel_rfl))) hI ?_
                refine GmT.p' 11 39 (.bool (decide (((gt a0_Map x5).Owner) < 0))) (by kernel_rfl) (by kernel_rfl) ?_
                refine GmT.p' 12 40 (.bool (decide (((gt a0_Map x5).Owner) < 0))) (by kernel_rfl) (by kernel_rfl) ?_
                refine GmT.p' 13 41 (.bool (decide (((gt a0_Map x5).Owner) < 0))) (by kernel_rfl) (by kernel_rfl) ?_
                by_cases hb17 : (decide (((gt a0_Map x5).Owner) < 0)) = true
                · rw [if_pos hb17] at h2
                  refine GmT.keep [1, 3, 4, 41] (S' := [(1, .pointer (some ⟨b1, 0, none⟩)), (3, .int .i64 x5), (4, .pointer (some ⟨b13, 0, none⟩)), (41, .bool true)]) (by simp only [hb17]; kernel_rfl) ?_
                  refine GmT.p' 14 42 (undef) (by kernel_rfl) (by kernel_rfl) ?_
                  refine GmT.p' 15 43 (undef) (by kernel_rfl) (by kernel_rfl) ?_
                  refine GmT.p' 16 44 (undef) (by kernel_rfl) (by kernel_rfl) ?_
                  refine GmT.p' 17 45 (.bool true) (by kernel_rfl) (by kernel_rfl) ?_
                  refine GmT.p' 18 46 (.bool true) (by kernel_rfl) (by kernel_rfl) ?_
                  refine GmT.p' 19 47 (undef) (by kernel_rfl) (by kernel_rfl) ?_
                  refine GmT.p' 20 48 (undef) (by kernel_rfl) (by kernel_rfl) ?_
                  refine GmT.p' 21 49 (undef) (by kernel_rfl) (by kernel_rfl) ?_
                  refine GmT.p' 22 50 (.bool true) (by kernel_rfl) (by kernel_rfl) ?_
                  refine GmT.p' 23 51 (.bool true) (by kernel_rfl) (by kernel_rfl) ?_
                  refine GmT.p' 24 52 (undef) (by kernel_rfl) (by kernel_rfl) ?_
                  refine GmT.p' 25 53 (undef) (by kernel_rfl) (by kernel_rfl) ?_
                  refine GmT.p' 26 54 (undef) (by kernel_rfl) (by kernel_rfl) ?_
                  refine GmT.p' 27 55 (.bool true) (by kernel_rfl) (by kernel_rfl) ?_
                  refine GmT.p' 28 56 (.bool true) (by kernel_rfl) (by kernel_rfl) ?_
                  refine GmT.p' 29 57 (undef) (by kernel_rfl) (by kernel_rfl) ?_
                  refine GmT.p' 30 58 (undef) (by kernel_rfl) (by kernel_rfl) ?_
                  refine GmT.p' 31 59 (undef) (by kernel_rfl) (by kernel_rfl) ?_
                  refine GmT.p' 32 60 (.bool true) (by kernel_rfl) (by kernel_rfl) ?_
                  refine GmT.p' 33 61 (.bool true) (by kernel_rfl) (by kernel_rfl) ?_
                  refine GmT.p' 34 62 (undef) (by kernel_rfl) (by kernel_rfl) ?_
                  refine GmT.p' 35 63 (undef) (by kernel_rfl) (by kernel_rfl) ?_
                  refine GmT.p' 36 64 (undef) (by kernel_rfl) (by kernel_rfl) ?_
                  refine GmT.p' 37 65 (.bool true) (by kernel_rfl) (by kernel_rfl) ?_
                  refine GmT.p' 38 66 (.bool true) (by kernel_rfl) (by kernel_rfl) ?_
                  refine GmT.p' 39 67 (undef) (by kernel_rfl) (by kernel_rfl) ?_
                  refine GmT.p' 40 68 (undef) (by kernel_rfl) (by kernel_rfl) ?_
                  refine GmT.p' 41 69 (undef) (by kernel_rfl) (by kernel_rfl) ?_
                  refine GmT.p' 42 70 (undef) (by kernel_rfl) (by kernel_rfl) ?_
                  refine GmT.p' 43 71 (undef) (by kernel_rfl) (by kernel_rfl) ?_
                  refine GmT.p' 44 72 (undef) (by kernel_rfl) (by kernel_rfl) ?_
                  refine GmT.p' 45 73 (undef) (by kernel_rfl) (by kernel_rfl) ?_
                  refine GmT.p' 46 74 (undef) (by kernel_rfl) (by kernel_rfl) ?_
                  refine GmT.p' 47 75 (undef) (by kernel_rfl) (by kernel_rfl) ?_
                  refine GmT.p' 48 76 (undef) (by kernel_rfl) (by kernel_rfl) ?_
                  refine GmT.p' 49 77 (undef) (by kernel_rfl) (by kernel_rfl) ?_
                  refine GmT.p' 50 78 (undef) (by kernel_rfl) (by kernel_rfl) ?_
                  refine GmT.p' 51 79 (undef) (by kernel_rfl) (by kernel_rfl) ?_
                  refine GmT.p' 52 80 (undef) (by kernel_rfl) (by kernel_rfl) ?_
                  refine GmT.p' 53 81 (.bool true) (by kernel_rfl) (by kernel_rfl) ?_
                  refine GmT.done (by kernel_rfl) ?_
                  have hI := hI.drop
                  have e := someS h2
                  subst e
                  exact Qn.thenJ fun a ha => ⟨true, rfl, ha.keep [1, 3, 81] (by kernel_rfl), hI⟩
                · rw [if_neg hb17] at h2
                  have hb17 : (decide (((gt a0_Map x5).Owner) < 0)) = false := by simpa using hb17
                  refine GmT.keep [1, 3, 4, 41] (S' := [(1, .pointer (some ⟨b1, 0, none⟩)), (3, .int .i64 x5), (4, .pointer (some ⟨b13, 0, none⟩)), (41, .bool false)]) (by simp only [hb17]; kernel_rfl) ?_
                  refine GmT.p' 14 42 (.pointer (some ⟨b13, 1, none⟩)) (by kernel_rfl) (by kernel_rfl) ?_
                  refine GmT.r (i := 15) 2 (by kernel_rfl) (by kernel_rfl) (Yl.load (d := 43) (T := 3) (v := .int .i64 ((gt a0_Map x5).Owner)) (by kernel_rfl) (ldB ty3 (l := c_Ref15Entry (gt a0_Map x5)) (o := 1) (v := .int .i64 ((gt a0_Map x5).Owner)) (ent_refl _) (by kernel_rfl))) hI ?_
                  refine GmT.p' 16 44 (.bool (decide (((gt a0_Map x5).Owner) > 1099511627776))) (by kernel_rfl) (by kernel_rfl) ?_
                  refine GmT.p' 17 45 (.bool (decide (((gt a0_Map x5).Owner) > 1099511627776))) (by kernel_rfl) (by kernel_rfl) ?_
                  refine GmT.p' 18 46 (.bool (decide (((gt a0_Map x5).Owner) > 1099511627776))) (by kernel_rfl) (by kernel_rfl) ?_
                  by_cases hb18 : (decide (((gt a0_Map x5).Owner) > 1099511627776)) = true
                  · rw [if_pos hb18] at h2
                    refine GmT.keep [1, 3, 4, 46] (S' := [(1, .pointer (some ⟨b1, 0, none⟩)), (3, .int .i64 x5), (4, .pointer (some ⟨b13, 0, none⟩)), (46, .bool true)]) (by simp only [hb18]; kernel_rfl) ?_
                    refine GmT.p' 19 47 (undef) (by kernel_rfl) (by kernel_rfl) ?_
                    refine GmT.p' 20 48 (undef) (by kernel_rfl) (by kernel_rfl) ?_
                    refine GmT.p' 21 49 (undef) (by kernel_rfl) (by kernel_rfl) ?_
                    refine GmT.p' 22 50 (.bool true) (by kernel_rfl) (by kernel_rfl) ?_
                    refine GmT.p' 23 51 (.bool true) (by kernel_rfl) (by kernel_rfl) ?_
                    refine GmT.p' 24 52 (undef) (by kernel_rfl) (by kernel_rfl) ?_
                    refine GmT.p' 25 53 (undef) (by kernel_rfl) (by kernel_rfl) ?_
                    refine GmT.p' 26 54 (undef) (by kernel_rfl) (by kernel_rfl) ?_
                    refine GmT.p' 27 55 (.bool true) (by kernel_rfl) (by kernel_rfl) ?_
                    refine GmT.p' 28 56 (.bool true) (by kernel_rfl) (by kernel_rfl) ?_
                    refine GmT.p' 29 57 (undef) (by kernel_rfl) (by kernel_rfl) ?_
                    refine GmT.p' 30 58 (undef) (by kernel_rfl) (by kernel_rfl) ?_
                    refine GmT.p' 31 59 (undef) (by kernel_rfl) (by kernel_rfl) ?_
                    refine GmT.p' 32 60 (.bool true) (by kernel_rfl) (by kernel_rfl) ?_
                    refine GmT.p' 33 61 (.bool true) (by kernel_rfl) (by kernel_rfl) ?_
                    refine GmT.p' 34 62 (undef) (by kernel_rfl) (by kernel_rfl) ?_
                    refine GmT.p' 35 63 (undef) (by kernel_rfl) (by kernel_rfl) ?_
                    refine GmT.p' 36 64 (undef) (by kernel_rfl) (by kernel_rfl) ?_
                    refine GmT.p' 37 65 (.bool true) (by kernel_rfl) (by kernel_rfl) ?_
                    refine GmT.p' 38 66 (.bool true) (by kernel_rfl) (by kernel_rfl) ?_
                    refine GmT.p' 39 67 (undef) (by kernel_rfl) (by kernel_rfl) ?_
                    refine GmT.p' 40 68 (undef) (by kernel_rfl) (by kernel_rfl) ?_
                    refine GmT.p' 41 69 (undef) (by kernel_rfl) (by kernel_rfl) ?_
                    refine GmT.p' 42 70 (undef) (by kernel_rfl) (by kernel_rfl) ?_
                    refine GmT.p' 43 71 (undef) (by kernel_rfl) (by kernel_rfl) ?_
                    refine GmT.p' 44 72 (undef) (by kernel_rfl) (by kernel_rfl) ?_
                    refine GmT.p' 45 73 (undef) (by kernel_rfl) (by kernel_rfl) ?_
                    refine GmT.p' 46 74 (undef) (by kernel_rfl) (by kernel_rfl) ?_
                    refine GmT.p' 47 75 (undef) (by kernel_rfl) (by kernel_rfl) ?_
                    refine GmT.p' 48 76 (undef) (by kernel_rfl) (by kernel_rfl) ?_
                    refine GmT.p' 49 77 (undef) (by kernel_rfl) (by kernel_rfl) ?_
                    refine GmT.p' 50 78 (undef) (by kernel_rfl) (by kernel_rfl) ?_
                    refine GmT.p' 51 79 (undef) (by kernel_rfl) (by kernel_rfl) ?_
                    refine GmT.p' 52 80 (undef) (by kernel_rfl) (by kernel_rfl) ?_
                    refine GmT.p' 53 81 (.bool true) (by kernel_rfl) (by kernel_rfl) ?_
                    refine GmT.done (by kernel_rfl) ?_
                    have hI := hI.drop
                    have e := someS h2
                    subst e
                    exact Qn.thenJ fun a ha => ⟨true, rfl, ha.keep [1, 3, 81] (by kernel_rfl), hI⟩
                  · rw [if_neg hb18] at h2
                    have hb18 : (decide (((gt a0_Map x5).Owner) > 1099511627776)) = false := by simpa using hb18
                    refine GmT.keep [1, 3, 4, 46] (S' := [(1, .pointer (some ⟨b1, 0, none⟩)), (3, .int .i64 x5), (4, .pointer (some ⟨b13, 0, none⟩)), (46, .bool false)]) (by simp only [hb18]; kernel_rfl) ?_
                    refine GmT.p' 19 47 (.pointer (some ⟨b13, 2, none⟩)) (by kernel_rfl) (by kernel_rfl) ?_
                    refine GmT.r (i := 20) 2 (by kernel_rfl) (by kernel_rfl) (Yl.load (d := 48) (T := 3) (v := .int .i64 ((gt a0_Map x5).Block)) (by kernel_rfl) (ldB ty3 (l := c_Ref15Entry (gt a0_Map x5)) (o := 2) (v := .int .i64 ((gt a0_Map x5).Block)) (ent_refl _) (by kernel_rfl))) hI ?_
                    refine GmT.p' 21 49 (.bool (decide (((gt a0_Map x5).Block) < 0))) (by kernel_rfl) (by kernel_rfl) ?_
                    refine GmT.p' 22 50 (.bool (decide (((gt a0_Map x5).Block) < 0))) (by kernel_rfl) (by kernel_rfl) ?_
                    refine GmT.p' 23 51 (.bool (decide (((gt a0_Map x5).Block) < 0))) (by kernel_rfl) (by kernel_rfl) ?_
                    by_cases hb19 : (decide (((gt a0_Map x5).Block) < 0)) = true
                    · rw [if_pos hb19] at h2
                      refine GmT.keep [1, 3, 4, 51] (S' := [(1, .pointer (some ⟨b1, 0, none⟩)), (3, .int .i64 x5), (4, .pointer (some ⟨b13, 0, none⟩)), (51, .bool true)]) (by simp only [hb19]; kernel_rfl) ?_
                      refine GmT.p' 24 52 (undef) (by kernel_rfl) (by kernel_rfl) ?_
                      refine GmT.p' 25 53 (undef) (by kernel_rfl) (by kernel_rfl) ?_
                      refine GmT.p' 26 54 (undef) (by kernel_rfl) (by kernel_rfl) ?_
                      refine GmT.p' 27 55 (.bool true) (by kernel_rfl) (by kernel_rfl) ?_
                      refine GmT.p' 28 56 (.bool true) (by kernel_rfl) (by kernel_rfl) ?_
                      refine GmT.p' 29 57 (undef) (by kernel_rfl) (by kernel_rfl) ?_
                      refine GmT.p' 30 58 (undef) (by kernel_rfl) (by kernel_rfl) ?_
                      refine GmT.p' 31 59 (undef) (by kernel_rfl) (by kernel_rfl) ?_
                      refine GmT.p' 32 60 (.bool true) (by kernel_rfl) (by kernel_rfl) ?_
                      refine GmT.p' 33 61 (.bool true) (by kernel_rfl) (by kernel_rfl) ?_
                      refine GmT.p' 34 62 (undef) (by kernel_rfl) (by kernel_rfl) ?_
                      refine GmT.p' 35 63 (undef) (by kernel_rfl) (by kernel_rfl) ?_
                      refine GmT.p' 36 64 (undef) (by kernel_rfl) (by kernel_rfl) ?_
                      refine GmT.p' 37 65 (.bool true) (by kernel_rfl) (by kernel_rfl) ?_
                      refine GmT.p' 38 66 (.bool true) (by kernel_rfl) (by kernel_rfl) ?_
                      refine GmT.p' 39 67 (undef) (by kernel_rfl) (by kernel_rfl) ?_
                      refine GmT.p' 40 68 (undef) (by kernel_rfl) (by kernel_rfl) ?_
                      refine GmT.p' 41 69 (undef) (by kernel_rfl) (by kernel_rfl) ?_
                      refine GmT.p' 42 70 (undef) (by kernel_rfl) (by kernel_rfl) ?_
                      refine GmT.p' 43 71 (undef) (by kernel_rfl) (by kernel_rfl) ?_
                      refine GmT.p' 44 72 (undef) (by kernel_rfl) (by kernel_rfl) ?_
                      refine GmT.p' 45 73 (undef) (by kernel_rfl) (by kernel_rfl) ?_
                      refine GmT.p' 46 74 (undef) (by kernel_rfl) (by kernel_rfl) ?_
                      refine GmT.p' 47 75 (undef) (by kernel_rfl) (by kernel_rfl) ?_
                      refine GmT.p' 48 76 (undef) (by kernel_rfl) (by kernel_rfl) ?_
                      refine GmT.p' 49 77 (undef) (by kernel_rfl) (by kernel_rfl) ?_
                      refine GmT.p' 50 78 (undef) (by kernel_rfl) (by kernel_rfl) ?_
                      refine GmT.p' 51 79 (undef) (by kernel_rfl) (by kernel_rfl) ?_
                      refine GmT.p' 52 80 (undef) (by kernel_rfl) (by kernel_rfl) ?_
                      refine GmT.p' 53 81 (.bool true) (by kernel_rfl) (by kernel_rfl) ?_
                      refine GmT.done (by kernel_rfl) ?_
                      have hI := hI.drop
                      have e := someS h2
                      subst e
                      exact Qn.thenJ fun a ha => ⟨true, rfl, ha.keep [1, 3, 81] (by kernel_rfl), hI⟩
                    · rw [if_neg hb19] at h2
                      have hb19 : (decide (((gt a0_Map x5).Block) < 0)) = false := by simpa using hb19
                      refine GmT.keep [1, 3, 4, 51] (S' := [(1, .pointer (some ⟨b1, 0, none⟩)), (3, .int .i64 x5), (4, .pointer (some ⟨b13, 0, none⟩)), (51, .bool false)]) (by simp only [hb19]; kernel_rfl) ?_
                      refine GmT.p' 24 52 (.pointer (some ⟨b13, 2, none⟩)) (by kernel_rfl) (by kernel_rfl) ?_
                      refine GmT.r (i := 25) 2 (by kernel_rfl) (by kernel_rfl) (Yl.load (d := 53) (T := 3) (v := .int .i64 ((gt a0_Map x5).Block)) (by kernel_rfl) (ldB ty3 (l := c_Ref15Entry (gt a0_Map x5)) (o := 2) (v := .int .i64 ((gt a0_Map x5).Block)) (ent_refl _) (by kernel_rfl))) hI ?_
                      refine GmT.p' 26 54 (.bool (decide (((gt a0_Map x5).Block) > 63))) (by kernel_rfl) (by kernel_rfl) ?_
                      refine GmT.p' 27 55 (.bool (decide (((gt a0_Map x5).Block) > 63))) (by kernel_rfl) (by kernel_rfl) ?_
                      refine GmT.p' 28 56 (.bool (decide (((gt a0_Map x5).Block) > 63))) (by kernel_rfl) (by kernel_rfl) ?_
                      by_cases hb20 : (decide (((gt a0_Map x5).Block) > 63)) = true
                      · rw [if_pos hb20] at h2
                        refine GmT.keep [1, 3, 4, 56] (S' := [(1, .pointer (some ⟨b1, 0, none⟩)), (3, .int .i64 x5), (4, .pointer (some ⟨b13, 0, none⟩)), (56, .bool true)]) (by simp only [hb20]; kernel_rfl) ?_
                        refine GmT.p' 29 57 (undef) (by kernel_rfl) (by kernel_rfl) ?_
                        refine GmT.p' 30 58 (undef) (by kernel_rfl) (by kernel_rfl) ?_
                        refine GmT.p' 31 59 (undef) (by kernel_rfl) (by kernel_rfl) ?_
                        refine GmT.p' 32 60 (.bool true) (by kernel_rfl) (by kernel_rfl) ?_
                        refine GmT.p' 33 61 (.bool true) (by kernel_rfl) (by kernel_rfl) ?_
                        refine GmT.p' 34 62 (undef) (by kernel_rfl) (by kernel_rfl) ?_
                        refine GmT.p' 35 63 (undef) (by kernel_rfl) (by kernel_rfl) ?_
                        refine GmT.p' 36 64 (undef) (by kernel_rfl) (by kernel_rfl) ?_
                        refine GmT.p' 37 65 (.bool true) (by kernel_rfl) (by kernel_rfl) ?_
                        refine GmT.p' 38 66 (.bool true) (by kernel_rfl) (by kernel_rfl) ?_
                        refine GmT.p' 39 67 (undef) (by kernel_rfl) (by kernel_rfl) ?_
                        refine GmT.p' 40 68 (undef) (by kernel_rfl) (by kernel_rfl) ?_
                        refine GmT.p' 41 69 (undef) (by kernel_rfl) (by kernel_rfl) ?_
                        refine GmT.p' 42 70 (undef) (by kernel_rfl) (by kernel_rfl) ?_
                        refine GmT.p' 43 71 (undef) (by kernel_rfl) (by kernel_rfl) ?_
                        refine GmT.p' 44 72 (undef) (by kernel_rfl) (by kernel_rfl) ?_
                        refine GmT.p' 45 73 (undef) (by kernel_rfl) (by kernel_rfl) ?_
                        refine GmT.p' 46 74 (undef) (by kernel_rfl) (by kernel_rfl) ?_
                        refine GmT.p' 47 75 (undef) (by kernel_rfl) (by kernel_rfl) ?_
                        refine GmT.p' 48 76 (undef) (by kernel_rfl) (by kernel_rfl) ?_
                        refine GmT.p' 49 77 (undef) (by kernel_rfl) (by kernel_rfl) ?_
                        refine GmT.p' 50 78 (undef) (by kernel_rfl) (by kernel_rfl) ?_
                        refine GmT.p' 51 79 (undef) (by kernel_rfl) (by kernel_rfl) ?_
                        refine GmT.p' 52 80 (undef) (by kernel_rfl) (by kernel_rfl) ?_
                        refine GmT.p' 53 81 (.bool true) (by kernel_rfl) (by kernel_rfl) ?_
                        refine GmT.done (by kernel_rfl) ?_
                        have hI := hI.drop
                        have e := someS h2
                        subst e
                        exact Qn.thenJ fun a ha => ⟨true, rfl, ha.keep [1, 3, 81] (by kernel_rfl), hI⟩
                      · rw [if_neg hb20] at h2
                        have hb20 : (decide (((gt a0_Map x5).Block) > 63)) = false := by simpa using hb20
                        refine GmT.keep [1, 3, 4, 56] (S' := [(1, .pointer (some ⟨b1, 0, none⟩)), (3, .int .i64 x5), (4, .pointer (some ⟨b13, 0, none⟩)), (56, .bool false)]) (by simp only [hb20]; kernel_rfl) ?_
                        refine GmT.p' 29 57 (.pointer (some ⟨b13, 3, none⟩)) (by kernel_rfl) (by kernel_rfl) ?_
                        refine GmT.r (i := 30) 2 (by kernel_rfl) (by kernel_rfl) (Yl.load (d := 58) (T := 3) (v := .int .i64 ((gt a0_Map x5).At)) (by kernel_rfl) (ldB ty3 (l := c_Ref15Entry (gt a0_Map x5)) (o := 3) (v := .int .i64 ((gt a0_Map x5).At)) (ent_refl _) (by kernel_rfl))) hI ?_
                        refine GmT.p' 31 59 (.bool (decide (((gt a0_Map x5).At) < 0))) (by kernel_rfl) (by kernel_rfl) ?_
                        refine GmT.p' 32 60 (.bool (decide (((gt a0_Map x5).At) < 0))) (by kernel_rfl) (by kernel_rfl) ?_
                        refine GmT.p' 33 61 (.bool (decide (((gt a0_Map x5).At) < 0))) (by kernel_rfl) (by kernel_rfl) ?_
                        by_cases hb21 : (decide (((gt a0_Map x5).At) < 0)) = true
                        · rw [if_pos hb21] at h2
                          refine GmT.keep [1, 3, 4, 61] (S' := [(1, .pointer (some ⟨b1, 0, none⟩)), (3, .int .i64 x5), (4, .pointer (some ⟨b13, 0, none⟩)), (61, .bool true)]) (by simp only [hb21]; kernel_rfl) ?_
                          refine GmT.p' 34 62 (undef) (by kernel_rfl) (by kernel_rfl) ?_
                          refine GmT.p' 35 63 (undef) (by kernel_rfl) (by kernel_rfl) ?_
                          refine GmT.p' 36 64 (undef) (by kernel_rfl) (by kernel_rfl) ?_
                          refine GmT.p' 37 65 (.bool true) (by kernel_rfl) (by kernel_rfl) ?_
                          refine GmT.p' 38 66 (.bool true) (by kernel_rfl) (by kernel_rfl) ?_
                          refine GmT.p' 39 67 (undef) (by kernel_rfl) (by kernel_rfl) ?_
                          refine GmT.p' 40 68 (undef) (by kernel_rfl) (by kernel_rfl) ?_
                          refine GmT.p' 41 69 (undef) (by kernel_rfl) (by kernel_rfl) ?_
                          refine GmT.p' 42 70 (undef) (by kernel_rfl) (by kernel_rfl) ?_
                          refine GmT.p' 43 71 (undef) (by kernel_rfl) (by kernel_rfl) ?_
                          refine GmT.p' 44 72 (undef) (by kernel_rfl) (by kernel_rfl) ?_
                          refine GmT.p' 45 73 (undef) (by kernel_rfl) (by kernel_rfl) ?_
                          refine GmT.p' 46 74 (undef) (by kernel_rfl) (by kernel_rfl) ?_
                          refine GmT.p' 47 75 (undef) (by kernel_rfl) (by kernel_rfl) ?_
                          refine GmT.p' 48 76 (undef) (by kernel_rfl) (by kernel_rfl) ?_
                          refine GmT.p' 49 77 (undef) (by kernel_rfl) (by kernel_rfl) ?_
                          refine GmT.p' 50 78 (undef) (by kernel_rfl) (by kernel_rfl) ?_
                          refine GmT.p' 51 79 (undef) (by kernel_rfl) (by kernel_rfl) ?_
                          refine GmT.p' 52 80 (undef) (by kernel_rfl) (by kernel_rfl) ?_
                          refine GmT.p' 53 81 (.bool true) (by kernel_rfl) (by kernel_rfl) ?_
                          refine GmT.done (by kernel_rfl) ?_
                          have hI := hI.drop
                          have e := someS h2
                          subst e
                          exact Qn.thenJ fun a ha => ⟨true, rfl, ha.keep [1, 3, 81] (by kernel_rfl), hI⟩
                        · rw [if_neg hb21] at h2
                          have hb21 : (decide (((gt a0_Map x5).At) < 0)) = false := by simpa using hb21
                          refine GmT.keep [1, 3, 4, 61] (S' := [(1, .pointer (some ⟨b1, 0, none⟩)), (3, .int .i64 x5), (4, .pointer (some ⟨b13, 0, none⟩)), (61, .bool false)]) (by simp only [hb21]; kernel_rfl) ?_
                          refine GmT.p' 34 62 (.pointer (some ⟨b13, 3, none⟩)) (by kernel_rfl) (by kernel_rfl) ?_
                          refine GmT.r (i := 35) 2 (by kernel_rfl) (by kernel_rfl) (Yl.load (d := 63) (T := 3) (v := .int .i64 ((gt a0_Map x5).At)) (by kernel_rfl) (ldB ty3 (l := c_Ref15Entry (gt a0_Map x5)) (o := 3) (v := .int .i64 ((gt a0_Map x5).At)) (ent_refl _) (by kernel_rfl))) hI ?_
                          refine GmT.p' 36 64 (.bool (decide (((gt a0_Map x5).At) > 31))) (by kernel_rfl) (by kernel_rfl) ?_
                          refine GmT.p' 37 65 (.bool (decide (((gt a0_Map x5).At) > 31))) (by kernel_rfl) (by kernel_rfl) ?_
                          refine GmT.p' 38 66 (.bool (decide (((gt a0_Map x5).At) > 31))) (by kernel_rfl) (by kernel_rfl) ?_
                          by_cases hb22 : (decide (((gt a0_Map x5).At) > 31)) = true
                          · rw [if_pos hb22] at h2
                            refine GmT.keep [1, 3, 4, 66] (S' := [(1, .pointer (some ⟨b1, 0, none⟩)), (3, .int .i64 x5), (4, .pointer (some ⟨b13, 0, none⟩)), (66, .bool true)]) (by simp only [hb22]; kernel_rfl) ?_
                            refine GmT.p' 39 67 (undef) (by kernel_rfl) (by kernel_rfl) ?_
                            refine GmT.p' 40 68 (undef) (by kernel_rfl) (by kernel_rfl) ?_
                            refine GmT.p' 41 69 (undef) (by kernel_rfl) (by kernel_rfl) ?_
                            refine GmT.p' 42 70 (undef) (by kernel_rfl) (by kernel_rfl) ?_
                            refine GmT.p' 43 71 (undef) (by kernel_rfl) (by kernel_rfl) ?_
                            refine GmT.p' 44 72 (undef) (by kernel_rfl) (by kernel_rfl) ?_
                            refine GmT.p' 45 73 (undef) (by kernel_rfl) (by kernel_rfl) ?_
                            refine GmT.p' 46 74 (undef) (by kernel_rfl) (by kernel_rfl) ?_
                            refine GmT.p' 47 75 (undef) (by kernel_rfl) (by kernel_rfl) ?_
                            refine GmT.p' 48 76 (undef) (by kernel_rfl) (by kernel_rfl) ?_
                            refine GmT.p' 49 77 (undef) (by kernel_rfl) (by kernel_rfl) ?_
                            refine GmT.p' 50 78 (undef) (by kernel_rfl) (by kernel_rfl) ?_
                            refine GmT.p' 51 79 (undef) (by kernel_rfl) (by kernel_rfl) ?_
                            refine GmT.p' 52 80 (undef) (by kernel_rfl) (by kernel_rfl) ?_
                            refine GmT.p' 53 81 (.bool true) (by kernel_rfl) (by kernel_rfl) ?_
                            refine GmT.done (by kernel_rfl) ?_
                            have hI := hI.drop
                            have e := someS h2
                            subst e
                            exact Qn.thenJ fun a ha => ⟨true, rfl, ha.keep [1, 3, 81] (by kernel_rfl), hI⟩
                          · rw [if_neg hb22] at h2
                            have hb22 : (decide (((gt a0_Map x5).At) > 31)) = false := by simpa using hb22
                            refine GmT.keep [1, 3, 4, 66] (S' := [(1, .pointer (some ⟨b1, 0, none⟩)), (3, .int .i64 x5), (4, .pointer (some ⟨b13, 0, none⟩)), (66, .bool false)]) (by simp only [hb22]; kernel_rfl) ?_
                            refine GmT.p' 39 67 (.int .i64 x5) (by kernel_rfl) (by kernel_rfl) ?_
                            refine GmT.p' 40 68 (.bool (decide (x5 > 0))) (by kernel_rfl) (by kernel_rfl) ?_
                            refine GmT.p' 41 69 (.bool (decide (x5 > 0))) (by kernel_rfl) (by kernel_rfl) ?_
                            by_cases hb23 : (decide (x5 > 0)) = true
                            · rw [if_pos hb23] at h2
                              refine GmT.keep [1, 3, 4, 66, 69] (S' := [(1, .pointer (some ⟨b1, 0, none⟩)), (3, .int .i64 x5), (4, .pointer (some ⟨b13, 0, none⟩)), (66, .bool false), (69, .bool true)]) (by simp only [hb23]; kernel_rfl) ?_
                              refine GmT.p' 42 70 (.pointer (some ⟨b1, 0, none⟩)) (by kernel_rfl) (by kernel_rfl) ?_
                              refine GmT.p' 44 72 (.int .i64 x5) (by kernel_rfl) (by kernel_rfl) ?_
                              refine GmT.p' 45 73 (.int .i64 (wi64 (x5 - 1))) (by kernel_rfl) (by kernel_rfl) ?_
                              refine GmT.p' 49 77 (.pointer (some ⟨b13, 0, none⟩)) (by kernel_rfl) (by kernel_rfl) ?_
                              refine GmT.r (i := 43) 2 (by kernel_rfl) (by kernel_rfl) (Yl.load (d := 71) (T := 28) (v := .slice A_a0_Map a0_Map.length c_a0_Map) (by kernel_rfl) (ldB ty28 (l := (([.slice A_a0_Map a0_Map.length c_a0_Map, .slice A_a0_Gone a0_Gone.length c_a0_Gone] : List Value))) (o := 0) (v := .slice A_a0_Map a0_Map.length c_a0_Map) (pick2 _ _ _) (by kernel_rfl))) hI ?_
                              obtain ⟨hg24, h2⟩ := guardS h2
                              obtain ⟨g25, o29, hA26, hr27, hl28⟩ := RdS.get hr_a0_Map hg24.1 hg24.2
                              refine GmT.r (i := 46) 2 (by kernel_rfl) (by kernel_rfl) (Yl.indexSlice (d := 74) (T := 28) (cc := c_a0_Map) (k := .i64) (j := wi64 (x5 - 1)) (g := g25) (o := o29) (by kernel_rfl) Go.Proofs.Try.underlying28 ty69 hA26 hg24.1 hg24.2) hI ?_
                              refine GmT.p' 47 75 (.pointer (some ⟨g25, o29 + (wi64 (x5 - 1)).toNat * 4, none⟩)) (by kernel_rfl) (by kernel_rfl) ?_
                              refine GmT.r (i := 48) 2 (by kernel_rfl) (by kernel_rfl) (Yl.load (d := 76) (T := 3) (v := .int .i64 ((gt a0_Map (wi64 (x5 - 1))).Logic)) (by kernel_rfl) (ldR ty3 (v := .int .i64 ((gt a0_Map (wi64 (x5 - 1))).Logic)) 0 (fun w hC => hr27 w0 w _ hC) (by kernel_rfl))) hI ?_
                              refine GmT.r (i := 50) 2 (by kernel_rfl) (by kernel_rfl) (Yl.load (d := 78) (T := 3) (v := .int .i64 ((gt a0_Map x5).Logic)) (by kernel_rfl) (ldB ty3 (l := c_Ref15Entry (gt a0_Map x5)) (o := 0) (v := .int .i64 ((gt a0_Map x5).Logic)) (ent_refl _) (by kernel_rfl))) hI ?_
                              refine GmT.p' 51 79 (.bool (decide (((gt a0_Map (wi64 (x5 - 1))).Logic) ≥ ((gt a0_Map x5).Logic)))) (by kernel_rfl) (by kernel_rfl) ?_
                              refine GmT.p' 52 80 (.bool (decide (((gt a0_Map (wi64 (x5 - 1))).Logic) ≥ ((gt a0_Map x5).Logic)))) (by kernel_rfl) (by kernel_rfl) ?_
                              refine GmT.p' 53 81 (.bool (decide (((gt a0_Map (wi64 (x5 - 1))).Logic) ≥ ((gt a0_Map x5).Logic)))) (by kernel_rfl) (by kernel_rfl) ?_
                              refine GmT.done (by kernel_rfl) ?_
                              have hI := hI.drop
                              have e := someS h2
                              subst e
                              exact Qn.thenJ fun a ha => ⟨decide (((gt a0_Map (wi64 (x5 - 1))).Logic) ≥ ((gt a0_Map x5).Logic)), rfl, ha.keep [1, 3, 81] (by kernel_rfl), hI⟩
                            · rw [if_neg hb23] at h2
                              have hb23 : (decide (x5 > 0)) = false := by simpa using hb23
                              refine GmT.keep [1, 3, 4, 66, 69] (S' := [(1, .pointer (some ⟨b1, 0, none⟩)), (3, .int .i64 x5), (4, .pointer (some ⟨b13, 0, none⟩)), (66, .bool false), (69, .bool false)]) (by simp only [hb23]; kernel_rfl) ?_
                              refine GmT.p' 42 70 (undef) (by kernel_rfl) (by kernel_rfl) ?_
                              refine GmT.p' 43 71 (undef) (by kernel_rfl) (by kernel_rfl) ?_
                              refine GmT.p' 44 72 (undef) (by kernel_rfl) (by kernel_rfl) ?_
                              refine GmT.p' 45 73 (undef) (by kernel_rfl) (by kernel_rfl) ?_
                              refine GmT.p' 46 74 (undef) (by kernel_rfl) (by kernel_rfl) ?_
                              refine GmT.p' 47 75 (undef) (by kernel_rfl) (by kernel_rfl) ?_
                              refine GmT.p' 48 76 (undef) (by kernel_rfl) (by kernel_rfl) ?_
                              refine GmT.p' 49 77 (undef) (by kernel_rfl) (by kernel_rfl) ?_
                              refine GmT.p' 50 78 (undef) (by kernel_rfl) (by kernel_rfl) ?_
                              refine GmT.p' 51 79 (undef) (by kernel_rfl) (by kernel_rfl) ?_
                              refine GmT.p' 52 80 (.bool false) (by kernel_rfl) (by kernel_rfl) ?_
                              refine GmT.p' 53 81 (.bool false) (by kernel_rfl) (by kernel_rfl) ?_
                              refine GmT.done (by kernel_rfl) ?_
                              have hI := hI.drop
                              have e := someS h2
                              subst e
                              exact Qn.thenJ fun a ha => ⟨false, rfl, ha.keep [1, 3, 81] (by kernel_rfl), hI⟩
          ·
            rintro a w ⟨x14, rfl, ha, hI⟩
            try dsimp only at h1
            refine CodT.of ?_ ha
            by_cases hb30 : x14 = true
            · rw [if_pos hb30] at h1
              refine CodT.yes' (b := x14) (by kernel_rfl) hb30 ?_
              refine CodT.seq ?_
              refine CodT.regionL [0] (by kernel_rfl) ?_
              refine OpsT.pures (r := []) [0] [2] (S' := [(2, .bool false)]) (by kernel_rfl) ?_
              refine OpsT.done ?_
              refine Qn.then ?_
              refine CodT.ret ?_
              refine Qn.block_ret ?_
              refine Qn.ret_then ?_
              refine Qn.ret_then ?_
              refine Qn.block_ret ?_
              refine Qn.ret_then ?_
              refine Qn.ret_then ?_
              have hI := hI.drop
              have e := someS h1
              subst e
              try dsimp only at h0
              have e := someS h0
              subst e
              refine Qn.keep [2] (S' := [(2, .bool false)]) (by kernel_rfl) ?_
              exact post_ret (v := .bool false) (fun a ha => RunRes.run (vs := [.bool false]) (.tmp (t := 2) (by kernel_rfl) .nil) ha (by kernel_rfl)) ⟨rfl, hI⟩
            · rw [if_neg hb30] at h1
              refine CodT.no' (b := x14) (by kernel_rfl) (by simpa using hb30) ?_
              refine CodT.skip ?_
              refine Qn.block_normal ?_
              refine Qn.then ?_
              refine CodT.regionL [0, 1, 2] (by kernel_rfl) ?_
              refine OpsT.pures (r := []) [0, 1, 2] [1, 3] (S' := [(1, .pointer (some ⟨b1, 0, none⟩)), (3, .int .i64 (wi64 (x5 + 1)))]) (by kernel_rfl) ?_
              refine OpsT.done ?_
              exact Qn.thenJ fun a ha => ⟨k, Nat.lt_succ_self k, wi64 (x5 + 1), h1, ha.keep [1, 3] (by kernel_rfl), hI⟩
        · rw [if_neg hb6] at h1
          refine CodT.no' (b := decide (x5 < (a0_Map.length : Int))) (by kernel_rfl) (by simpa using hb6) ?_
          refine CodT.exit ?_
          refine Qn.exit_then ?_
          refine Qn.exit_then ?_
          refine Qn.block ?_
          have e := someS h1
          subst e
          exact Qn.thenJ fun a ha => ⟨rfl, ha.keep [1] (by kernel_rfl), hI⟩
      ·
        rintro a w ⟨rfl, ha, hI⟩
        try dsimp only at h0
        refine Qn.of ?_ ha
        refine Qn.then ?_
        refine CodT.seq ?_
        refine CodT.seq ?_
        refine CodT.regionL [0] (by kernel_rfl) ?_
        refine OpsT.pures (r := []) [0] [1, 5] (S' := [(1, .pointer (some ⟨b1, 0, none⟩)), (5, .int .i64 0)]) (by kernel_rfl) ?_
        refine OpsT.done ?_
        refine Qn.then ?_
        obtain ⟨r1, h1, h0⟩ := bindS h0
        refine CodT.meet1 (fun a w => .inr () = r1 ∧ Fr 121 [] a ∧ Inv w0 Z w A) ?_ ?_
        ·
          refine CodT.block ?_
          refine (fun a ha => wp_loopN (fun k a w => ∃ (x31 : Int), ref15_Valid.l1 a0_Gone k x31 = some r1 ∧ Fr 121 [(1, .pointer (some ⟨b1, 0, none⟩)), (5, .int .i64 x31)] a ∧ Inv w0 Z w (star (pt b1 (.cells ((([.slice A_a0_Map a0_Map.length c_a0_Map, .slice A_a0_Gone a0_Gone.length c_a0_Gone] : List Value))).toArray 30 (0, 0))) A)) ?_ FU a w ⟨0, h1, ha.keep [1, 5] (by kernel_rfl), hI⟩)
          clear h1 hI
          rintro k a w ⟨x31, h1, ha, hI⟩
          rcases k with _ | k
          · cases h1
          simp only [ref15_Valid.l1] at h1
          refine CodT.of ?_ ha
          refine CodT.seq ?_
          refine CodT.seq ?_
          refine CodT.regionL [0, 1, 2, 3, 4] (by kernel_rfl) ?_
          refine OpsT.pures (r := [2, 3, 4]) [0, 1] [1, 5, 82, 83] (S' := [(1, .pointer (some ⟨b1, 0, none⟩)), (5, .int .i64 x31), (82, .int .i64 x31), (83, .pointer (some ⟨b1, 1, none⟩))]) (by kernel_rfl) ?_
          refine OpsT.cons (Does.yi (Yl.load (d := 84) (T := 23) (v := .slice A_a0_Gone a0_Gone.length c_a0_Gone) (by kernel_rfl) (ldB ty23 (l := (([.slice A_a0_Map a0_Map.length c_a0_Map, .slice A_a0_Gone a0_Gone.length c_a0_Gone] : List Value))) (o := 1) (v := .slice A_a0_Gone a0_Gone.length c_a0_Gone) (ent_refl _) (by kernel_rfl))) hI ?_)
          refine OpsT.pures (r := []) [3, 4] [1, 5, 86] (S' := [(1, .pointer (some ⟨b1, 0, none⟩)), (5, .int .i64 x31), (86, .bool (decide (x31 < (a0_Gone.length : Int))))]) (by kernel_rfl) ?_
          refine OpsT.done ?_
          refine Qn.then ?_
          by_cases hb32 : (decide (x31 < (a0_Gone.length : Int))) = true
          · rw [if_pos hb32] at h1
            refine CodT.yes' (b := decide (x31 < (a0_Gone.length : Int))) (by kernel_rfl) hb32 ?_
            refine CodT.skip ?_
            refine Qn.then ?_
            refine CodT.seq ?_
            refine CodT.block ?_
            obtain ⟨r2, h2, h1⟩ := bindS h1
            refine CodT.meet (fun a w => ∃ (x33 : Bool), x33 = r2 ∧ Fr 121 [(1, .pointer (some ⟨b1, 0, none⟩)), (5, .int .i64 x31), (120, .bool x33)] a ∧ Inv w0 Z w (star (pt b1 (.cells ((([.slice A_a0_Map a0_Map.length c_a0_Map, .slice A_a0_Gone a0_Gone.length c_a0_Gone] : List Value))).toArray 30 (0, 0))) A)) ?_ ?_
            ·
              refine CodT.drawI (n := 32) [] (by kernel_rfl) (by kernel_rfl) hI ?_
              intro w hI
              refine GmT.p' 0 89 (.pointer (some ⟨b1, 1, none⟩)) (by kernel_rfl) (by kernel_rfl) ?_
              refine GmT.p' 2 91 (.int .i64 x31) (by kernel_rfl) (by kernel_rfl) ?_
              refine GmT.r (i := 1) 2 (by kernel_rfl) (by kernel_rfl) (Yl.load (d := 90) (T := 23) (v := .slice A_a0_Gone a0_Gone.length c_a0_Gone) (by kernel_rfl) (ldB ty23 (l := (([.slice A_a0_Map a0_Map.length c_a0_Map, .slice A_a0_Gone a0_Gone.length c_a0_Gone] : List Value))) (o := 1) (v := .slice A_a0_Gone a0_Gone.length c_a0_Gone) (ent_refl _) (by kernel_rfl))) hI ?_
              obtain ⟨hg34, h2⟩ := guardS h2
              obtain ⟨g35, o39, hA36, hr37, hl38⟩ := RdS.get hr_a0_Gone hg34.1 hg34.2
              refine GmT.r (i := 3) 2 (by kernel_rfl) (by kernel_rfl) (Yl.indexSlice (d := 92) (T := 23) (cc := c_a0_Gone) (k := .i64) (j := x31) (g := g35) (o := o39) (by kernel_rfl) Go.Proofs.Try.underlying23 ty3 hA36 hg34.1 hg34.2) hI ?_
              refine GmT.r (i := 4) 2 (by kernel_rfl) (by kernel_rfl) (Yl.load (d := 93) (T := 3) (v := .int .i64 (gt a0_Gone x31)) (by kernel_rfl) (ldR ty3 (v := .int .i64 (gt a0_Gone x31)) 0 (fun w hC => hr37 w0 w _ hC) (by kernel_rfl))) hI ?_
              refine GmT.p' 5 94 (.bool (decide ((gt a0_Gone x31) < 0))) (by kernel_rfl) (by kernel_rfl) ?_
              refine GmT.p' 6 95 (.bool (decide ((gt a0_Gone x31) < 0))) (by kernel_rfl) (by kernel_rfl) ?_
              by_cases hb40 : (decide ((gt a0_Gone x31) < 0)) = true
              · rw [if_pos hb40] at h2
                refine GmT.keep [1, 5, 95] (S' := [(1, .pointer (some ⟨b1, 0, none⟩)), (5, .int .i64 x31), (95, .bool true)]) (by simp only [hb40]; kernel_rfl) ?_
                refine GmT.p' 7 96 (undef) (by kernel_rfl) (by kernel_rfl) ?_
                refine GmT.p' 8 97 (undef) (by kernel_rfl) (by kernel_rfl) ?_
                refine GmT.p' 9 98 (undef) (by kernel_rfl) (by kernel_rfl) ?_
                refine GmT.p' 10 99 (undef) (by kernel_rfl) (by kernel_rfl) ?_
                refine GmT.p' 11 100 (undef) (by kernel_rfl) (by kernel_rfl) ?_
                refine GmT.p' 12 101 (undef) (by kernel_rfl) (by kernel_rfl) ?_
                refine GmT.p' 13 102 (.bool true) (by kernel_rfl) (by kernel_rfl) ?_
                refine GmT.p' 14 103 (.bool true) (by kernel_rfl) (by kernel_rfl) ?_
                refine GmT.p' 15 104 (undef) (by kernel_rfl) (by kernel_rfl) ?_
                refine GmT.p' 16 105 (undef) (by kernel_rfl) (by kernel_rfl) ?_
                refine GmT.p' 17 106 (undef) (by kernel_rfl) (by kernel_rfl) ?_
                refine GmT.p' 18 107 (undef) (by kernel_rfl) (by kernel_rfl) ?_
                refine GmT.p' 19 108 (undef) (by kernel_rfl) (by kernel_rfl) ?_
                refine GmT.p' 20 109 (undef) (by kernel_rfl) (by kernel_rfl) ?_
                refine GmT.p' 21 110 (undef) (by kernel_rfl) (by kernel_rfl) ?_
                refine GmT.p' 22 111 (undef) (by kernel_rfl) (by kernel_rfl) ?_
                refine GmT.p' 23 112 (undef) (by kernel_rfl) (by kernel_rfl) ?_
                refine GmT.p' 24 113 (undef) (by kernel_rfl) (by kernel_rfl) ?_
                refine GmT.p' 25 114 (undef) (by kernel_rfl) (by kernel_rfl) ?_
                refine GmT.p' 26 115 (undef) (by kernel_rfl) (by kernel_rfl) ?_
                refine GmT.p' 27 116 (undef) (by kernel_rfl) (by kernel_rfl) ?_
                refine GmT.p' 28 117 (undef) (by kernel_rfl) (by kernel_rfl) ?_
                refine GmT.p' 29 118 (undef) (by kernel_rfl) (by kernel_rfl) ?_
                refine GmT.p' 30 119 (undef) (by kernel_rfl) (by kernel_rfl) ?_
                refine GmT.p' 31 120 (.bool true) (by kernel_rfl) (by kernel_rfl) ?_
                refine GmT.done (by kernel_rfl) ?_
                have e := someS h2
                subst e
                exact Qn.thenJ fun a ha => ⟨true, rfl, ha.keep [1, 5, 120] (by kernel_rfl), hI⟩
              · rw [if_neg hb40] at h2
                have hb40 : (decide ((gt a0_Gone x31) < 0)) = false := by simpa using hb40
                refine GmT.keep [1, 5, 95] (S' := [(1, .pointer (some ⟨b1, 0, none⟩)), (5, .int .i64 x31), (95, .bool false)]) (by simp only [hb40]; kernel_rfl) ?_
                refine GmT.p' 7 96 (.pointer (some ⟨b1, 1, none⟩)) (by kernel_rfl) (by kernel_rfl) ?_
                refine GmT.p' 9 98 (.int .i64 x31) (by kernel_rfl) (by kernel_rfl) ?_
                refine GmT.r (i := 8) 2 (by kernel_rfl) (by kernel_rfl) (Yl.load (d := 97) (T := 23) (v := .slice A_a0_Gone a0_Gone.length c_a0_Gone) (by kernel_rfl) (ldB ty23 (l := (([.slice A_a0_Map a0_Map.length c_a0_Map, .slice A_a0_Gone a0_Gone.length c_a0_Gone] : List Value))) (o := 1) (v := .slice A_a0_Gone a0_Gone.length c_a0_Gone) (ent_refl _) (by kernel_rfl))) hI ?_
                obtain ⟨hg41, h2⟩ := guardS h2
                obtain ⟨g42, o46, hA43, hr44, hl45⟩ := RdS.get hr_a0_Gone hg41.1 hg41.2
                refine GmT.r (i := 10) 2 (by kernel_rfl) (by kernel_rfl) (Yl.indexSlice (d := 99) (T := 23) (cc := c_a0_Gone) (k := .i64) (j := x31) (g := g42) (o := o46) (by kernel_rfl) Go.Proofs.Try.underlying23 ty3 hA43 hg41.1 hg41.2) hI ?_
                refine GmT.r (i := 11) 2 (by kernel_rfl) (by kernel_rfl) (Yl.load (d := 100) (T := 3) (v := .int .i64 (gt a0_Gone x31)) (by kernel_rfl) (ldR ty3 (v := .int .i64 (gt a0_Gone x31)) 0 (fun w hC => hr44 w0 w _ hC) (by kernel_rfl))) hI ?_
                refine GmT.p' 12 101 (.bool (decide ((gt a0_Gone x31) > 1099511627776))) (by kernel_rfl) (by kernel_rfl) ?_
                refine GmT.p' 13 102 (.bool (decide ((gt a0_Gone x31) > 1099511627776))) (by kernel_rfl) (by kernel_rfl) ?_
                refine GmT.p' 14 103 (.bool (decide ((gt a0_Gone x31) > 1099511627776))) (by kernel_rfl) (by kernel_rfl) ?_
                by_cases hb47 : (decide ((gt a0_Gone x31) > 1099511627776)) = true
                · rw [if_pos hb47] at h2
                  refine GmT.keep [1, 5, 103] (S' := [(1, .pointer (some ⟨b1, 0, none⟩)), (5, .int .i64 x31), (103, .bool true)]) (by simp only [hb47]; kernel_rfl) ?_
                  refine GmT.p' 15 104 (undef) (by kernel_rfl) (by kernel_rfl) ?_
                  refine GmT.p' 16 105 (undef) (by kernel_rfl) (by kernel_rfl) ?_
                  refine GmT.p' 17 106 (undef) (by kernel_rfl) (by kernel_rfl) ?_
                  refine GmT.p' 18 107 (undef) (by kernel_rfl) (by kernel_rfl) ?_
                  refine GmT.p' 19 108 (undef) (by kernel_rfl) (by kernel_rfl) ?_
                  refine GmT.p' 20 109 (undef) (by kernel_rfl) (by kernel_rfl) ?_
                  refine GmT.p' 21 110 (undef) (by kernel_rfl) (by kernel_rfl) ?_
                  refine GmT.p' 22 111 (undef) (by kernel_rfl) (by kernel_rfl) ?_
                  refine GmT.p' 23 112 (undef) (by kernel_rfl) (by kernel_rfl) ?_
                  refine GmT.p' 24 113 (undef) (by kernel_rfl) (by kernel_rfl) ?_
                  refine GmT.p' 25 114 (undef) (by kernel_rfl) (by kernel_rfl) ?_
                  refine GmT.p' 26 115 (undef) (by kernel_rfl) (by kernel_rfl) ?_
                  refine GmT.p' 27 116 (undef) (by kernel_rfl) (by kernel_rfl) ?_
                  refine GmT.p' 28 117 (undef) (by kernel_rfl) (by kernel_rfl) ?_
                  refine GmT.p' 29 118 (undef) (by kernel_rfl) (by kernel_rfl) ?_
                  refine GmT.p' 30 119 (undef) (by kernel_rfl) (by kernel_rfl) ?_
                  refine GmT.p' 31 120 (.bool true) (by kernel_rfl) (by kernel_rfl) ?_
                  refine GmT.done (by kernel_rfl) ?_
                  have e := someS h2
                  subst e
                  exact Qn.thenJ fun a ha => ⟨true, rfl, ha.keep [1, 5, 120] (by kernel_rfl), hI⟩
                · rw [if_neg hb47] at h2
                  have hb47 : (decide ((gt a0_Gone x31) > 1099511627776)) = false := by simpa using hb47
                  refine GmT.keep [1, 5, 103] (S' := [(1, .pointer (some ⟨b1, 0, none⟩)), (5, .int .i64 x31), (103, .bool false)]) (by simp only [hb47]; kernel_rfl) ?_
                  refine GmT.p' 15 104 (.int .i64 x31) (by kernel_rfl) (by kernel_rfl) ?_
                  refine GmT.p' 16 105 (.bool (decide (x31 > 0))) (by kernel_rfl) (by kernel_rfl) ?_
                  refine GmT.p' 17 106 (.bool (decide (x31 > 0))) (by kernel_rfl) (by kernel_rfl) ?_
                  by_cases hb48 : (decide (x31 > 0)) = true
                  · rw [if_pos hb48] at h2
                    refine GmT.keep [1, 5, 103, 106] (S' := [(1, .pointer (some ⟨b1, 0, none⟩)), (5, .int .i64 x31), (103, .bool false), (106, .bool true)]) (by simp only [hb48]; kernel_rfl) ?_
                    refine GmT.p' 18 107 (.pointer (some ⟨b1, 1, none⟩)) (by kernel_rfl) (by kernel_rfl) ?_
                    refine GmT.p' 20 109 (.int .i64 x31) (by kernel_rfl) (by kernel_rfl) ?_
                    refine GmT.p' 21 110 (.int .i64 (wi64 (x31 - 1))) (by kernel_rfl) (by kernel_rfl) ?_
                    refine GmT.p' 24 113 (.pointer (some ⟨b1, 1, none⟩)) (by kernel_rfl) (by kernel_rfl) ?_
                    refine GmT.p' 26 115 (.int .i64 x31) (by kernel_rfl) (by kernel_rfl) ?_
                    refine GmT.r (i := 19) 2 (by kernel_rfl) (by kernel_rfl) (Yl.load (d := 108) (T := 23) (v := .slice A_a0_Gone a0_Gone.length c_a0_Gone) (by kernel_rfl) (ldB ty23 (l := (([.slice A_a0_Map a0_Map.length c_a0_Map, .slice A_a0_Gone a0_Gone.length c_a0_Gone] : List Value))) (o := 1) (v := .slice A_a0_Gone a0_Gone.length c_a0_Gone) (ent_refl _) (by kernel_rfl))) hI ?_
                    obtain ⟨hg49, h2⟩ := guardS h2
                    obtain ⟨g50, o54, hA51, hr52, hl53⟩ := RdS.get hr_a0_Gone hg49.1 hg49.2
                    refine GmT.r (i := 22) 2 (by kernel_rfl) (by kernel_rfl) (Yl.indexSlice (d := 111) (T := 23) (cc := c_a0_Gone) (k := .i64) (j := wi64 (x31 - 1)) (g := g50) (o := o54) (by kernel_rfl) Go.Proofs.Try.underlying23 ty3 hA51 hg49.1 hg49.2) hI ?_
                    refine GmT.r (i := 23) 2 (by kernel_rfl) (by kernel_rfl) (Yl.load (d := 112) (T := 3) (v := .int .i64 (gt a0_Gone (wi64 (x31 - 1)))) (by kernel_rfl) (ldR ty3 (v := .int .i64 (gt a0_Gone (wi64 (x31 - 1)))) 0 (fun w hC => hr52 w0 w _ hC) (by kernel_rfl))) hI ?_
                    refine GmT.r (i := 25) 2 (by kernel_rfl) (by kernel_rfl) (Yl.load (d := 114) (T := 23) (v := .slice A_a0_Gone a0_Gone.length c_a0_Gone) (by kernel_rfl) (ldB ty23 (l := (([.slice A_a0_Map a0_Map.length c_a0_Map, .slice A_a0_Gone a0_Gone.length c_a0_Gone] : List Value))) (o := 1) (v := .slice A_a0_Gone a0_Gone.length c_a0_Gone) (ent_refl _) (by kernel_rfl))) hI ?_
                    obtain ⟨hg55, h2⟩ := guardS h2
                    obtain ⟨g56, o60, hA57, hr58, hl59⟩ := RdS.get hr_a0_Gone hg55.1 hg55.2
                    refine GmT.r (i := 27) 2 (by kernel_rfl) (by kernel_rfl) (Yl.indexSlice (d := 116) (T := 23) (cc := c_a0_Gone) (k := .i64) (j := x31) (g := g56) (o := o60) (by kernel_rfl) Go.Proofs.Try.underlying23 ty3 hA57 hg55.1 hg55.2) hI ?_
                    refine GmT.r (i := 28) 2 (by kernel_rfl) (by kernel_rfl) (Yl.load (d := 117) (T := 3) (v := .int .i64 (gt a0_Gone x31)) (by kernel_rfl) (ldR ty3 (v := .int .i64 (gt a0_Gone x31)) 0 (fun w hC => hr58 w0 w _ hC) (by kernel_rfl))) hI ?_
                    refine GmT.p' 29 118 (.bool (decide ((gt a0_Gone (wi64 (x31 - 1))) ≥ (gt a0_Gone x31)))) (by kernel_rfl) (by kernel_rfl) ?_
                    refine GmT.p' 30 119 (.bool (decide ((gt a0_Gone (wi64 (x31 - 1))) ≥ (gt a0_Gone x31)))) (by kernel_rfl) (by kernel_rfl) ?_
                    refine GmT.p' 31 120 (.bool (decide ((gt a0_Gone (wi64 (x31 - 1))) ≥ (gt a0_Gone x31)))) (by kernel_rfl) (by kernel_rfl) ?_
                    refine GmT.done (by kernel_rfl) ?_
                    have e := someS h2
                    subst e
                    exact Qn.thenJ fun a ha => ⟨decide ((gt a0_Gone (wi64 (x31 - 1))) ≥ (gt a0_Gone x31)), rfl, ha.keep [1, 5, 120] (by kernel_rfl), hI⟩
                  · rw [if_neg hb48] at h2
                    have hb48 : (decide (x31 > 0)) = false := by simpa using hb48
                    refine GmT.keep [1, 5, 103, 106] (S' := [(1, .pointer (some ⟨b1, 0, none⟩)), (5, .int .i64 x31), (103, .bool false), (106, .bool false)]) (by simp only [hb48]; kernel_rfl) ?_
                    refine GmT.p' 18 107 (undef) (by kernel_rfl) (by kernel_rfl) ?_
                    refine GmT.p' 19 108 (undef) (by kernel_rfl) (by kernel_rfl) ?_
                    refine GmT.p' 20 109 (undef) (by kernel_rfl) (by kernel_rfl) ?_
                    refine GmT.p' 21 110 (undef) (by kernel_rfl) (by kernel_rfl) ?_
                    refine GmT.p' 22 111 (undef) (by kernel_rfl) (by kernel_rfl) ?_
                    refine GmT.p' 23 112 (undef) (by kernel_rfl) (by kernel_rfl) ?_
                    refine GmT.p' 24 113 (undef) (by kernel_rfl) (by kernel_rfl) ?_
                    refine GmT.p' 25 114 (undef) (by kernel_rfl) (by kernel_rfl) ?_
                    refine GmT.p' 26 115 (undef) (by kernel_rfl) (by kernel_rfl) ?_
                    refine GmT.p' 27 116 (undef) (by kernel_rfl) (by kernel_rfl) ?_
                    refine GmT.p' 28 117 (undef) (by kernel_rfl) (by kernel_rfl) ?_
                    refine GmT.p' 29 118 (undef) (by kernel_rfl) (by kernel_rfl) ?_
                    refine GmT.p' 30 119 (.bool false) (by kernel_rfl) (by kernel_rfl) ?_
                    refine GmT.p' 31 120 (.bool false) (by kernel_rfl) (by kernel_rfl) ?_
                    refine GmT.done (by kernel_rfl) ?_
                    have e := someS h2
                    subst e
                    exact Qn.thenJ fun a ha => ⟨false, rfl, ha.keep [1, 5, 120] (by kernel_rfl), hI⟩
            ·
              rintro a w ⟨x33, rfl, ha, hI⟩
              try dsimp only at h1
              refine CodT.of ?_ ha
              by_cases hb61 : x33 = true
              · rw [if_pos hb61] at h1
                refine CodT.yes' (b := x33) (by kernel_rfl) hb61 ?_
                refine CodT.seq ?_
                refine CodT.regionL [0] (by kernel_rfl) ?_
                refine OpsT.pures (r := []) [0] [2] (S' := [(2, .bool false)]) (by kernel_rfl) ?_
                refine OpsT.done ?_
                refine Qn.then ?_
                refine CodT.ret ?_
                refine Qn.block_ret ?_
                refine Qn.ret_then ?_
                refine Qn.ret_then ?_
                refine Qn.block_ret ?_
                refine Qn.ret_then ?_
                refine Qn.ret_then ?_
                have hI := hI.drop
                have e := someS h1
                subst e
                try dsimp only at h0
                have e := someS h0
                subst e
                refine Qn.keep [2] (S' := [(2, .bool false)]) (by kernel_rfl) ?_
                exact post_ret (v := .bool false) (fun a ha => RunRes.run (vs := [.bool false]) (.tmp (t := 2) (by kernel_rfl) .nil) ha (by kernel_rfl)) ⟨rfl, hI⟩
              · rw [if_neg hb61] at h1
                refine CodT.no' (b := x33) (by kernel_rfl) (by simpa using hb61) ?_
                refine CodT.skip ?_
                refine Qn.block_normal ?_
                refine Qn.then ?_
                refine CodT.regionL [0, 1, 2] (by kernel_rfl) ?_
                refine OpsT.pures (r := []) [0, 1, 2] [1, 5] (S' := [(1, .pointer (some ⟨b1, 0, none⟩)), (5, .int .i64 (wi64 (x31 + 1)))]) (by kernel_rfl) ?_
                refine OpsT.done ?_
                exact Qn.thenJ fun a ha => ⟨k, Nat.lt_succ_self k, wi64 (x31 + 1), h1, ha.keep [1, 5] (by kernel_rfl), hI⟩
          · rw [if_neg hb32] at h1
            refine CodT.no' (b := decide (x31 < (a0_Gone.length : Int))) (by kernel_rfl) (by simpa using hb32) ?_
            refine CodT.exit ?_
            refine Qn.exit_then ?_
            refine Qn.exit_then ?_
            refine Qn.block ?_
            have hI := hI.drop
            have e := someS h1
            subst e
            exact Qn.thenJ fun a ha => ⟨rfl, ha.keep [] (by kernel_rfl), hI⟩
        ·
          rintro a w ⟨rfl, ha, hI⟩
          try dsimp only at h0
          refine Qn.of ?_ ha
          refine Qn.then ?_
          refine CodT.seq ?_
          refine CodT.regionL [0] (by kernel_rfl) ?_
          refine OpsT.pures (r := []) [0] [2] (S' := [(2, .bool true)]) (by kernel_rfl) ?_
          refine OpsT.done ?_
          refine Qn.then ?_
          refine CodT.ret ?_
          have e := someS h0
          subst e
          refine Qn.keep [2] (S' := [(2, .bool true)]) (by kernel_rfl) ?_
          exact post_ret (v := .bool true) (fun a ha => RunRes.run (vs := [.bool true]) (.tmp (t := 2) (by kernel_rfl) .nil) ha (by kernel_rfl)) ⟨rfl, hI⟩
set_option maxRecDepth 100000 in
set_option maxHeartbeats 4000000 in
/-- cenotaph/cenotaphref05.Row -/
theorem c35 (w0 w : World) (Z : Hp) (A : HP) (hI : Inv w0 Z w A) (A_a0 : Option Addr) (c_a0 : Nat) (a0 : (List Int)) (hr_a0 : RdS Z (cI .i64) 1 A_a0 c_a0 a0) (A_a1 : Option Addr) (c_a1 : Nat) (a1 : (List Int)) (hr_a1 : RdS Z (cI .i64) 1 A_a1 c_a1 a1) (r : Bool) (h0 : ref05_Row a0 a1 = some r) :
    Calls prog 35 #[.slice A_a0 a0.length c_a0, .slice A_a1 a1.length c_a1] w (fun e w' => e = .returned (.bool r) ∧ Inv w0 Z w' A) := by
  have e4 := calls_intro (R := (fun e w' => e = .returned (.bool r) ∧ Inv w0 Z w' A)) (w := w) (args := [.slice A_a0 a0.length c_a0, .slice A_a1 a1.length c_a1]) (fn := Go.Proofs.Try.f35) 26 Go.Proofs.Try.func35 (by rfl) Go.Proofs.Try.ntmps35 (by kernel_rfl)
  refine e4 ?_
  clear e4
  unfold ref05_Row at h0
  refine CodT.seq ?_
  refine CodT.regionL [0] (by kernel_rfl) ?_
  refine OpsT.pures (r := []) [0] [0, 1] (S' := [(0, .slice A_a0 a0.length c_a0), (1, .slice A_a1 a1.length c_a1)]) (by kernel_rfl) ?_
  refine OpsT.done ?_
  refine Qn.then ?_
  refine CodT.seq ?_
  refine CodT.seq ?_
  refine CodT.regionL [0, 1, 2, 3, 4] (by kernel_rfl) ?_
  refine OpsT.pures (r := []) [0, 1, 2, 3, 4] [0, 1, 10] (S' := [(0, .slice A_a0 a0.length c_a0), (1, .slice A_a1 a1.length c_a1), (10, .bool ((a0.length : Int) != (a1.length : Int)))]) (by kernel_rfl) ?_
  refine OpsT.done ?_
  refine Qn.then ?_
  by_cases hb1 : ((a0.length : Int) != (a1.length : Int)) = true
  · rw [if_pos hb1] at h0
    refine CodT.yes' (b := (a0.length : Int) != (a1.length : Int)) (by kernel_rfl) hb1 ?_
    refine CodT.seq ?_
    refine CodT.regionL [0] (by kernel_rfl) ?_
    refine OpsT.pures (r := []) [0] [4] (S' := [(4, .bool false)]) (by kernel_rfl) ?_
    refine OpsT.done ?_
    refine Qn.then ?_
    refine CodT.ret ?_
    refine Qn.ret_then ?_
    have e := someS h0
    subst e
    refine Qn.keep [4] (S' := [(4, .bool false)]) (by kernel_rfl) ?_
    exact post_ret (v := .bool false) (fun a ha => RunRes.run (vs := [.bool false]) (.tmp (t := 4) (by kernel_rfl) .nil) ha (by kernel_rfl)) ⟨rfl, hI⟩
  · rw [if_neg hb1] at h0
    refine CodT.no' (b := (a0.length : Int) != (a1.length : Int)) (by kernel_rfl) (by simpa using hb1) ?_
    refine CodT.skip ?_
    refine Qn.then ?_
    refine CodT.seq ?_
    refine CodT.seq ?_
    refine CodT.regionL [0] (by kernel_rfl) ?_
    refine OpsT.pures (r := []) [0] [0, 1, 5] (S' := [(0, .slice A_a0 a0.length c_a0), (1, .slice A_a1 a1.length c_a1), (5, .int .i64 0)]) (by kernel_rfl) ?_
    refine OpsT.done ?_
    refine Qn.then ?_
    obtain ⟨r1, h1, h0⟩ := bindS h0
    refine CodT.meet1 (fun a w => .inr () = r1 ∧ Fr 26 [] a ∧ Inv w0 Z w A) ?_ ?_
    ·
      refine CodT.block ?_
      refine (fun a ha => wp_loopN (fun k a w => ∃ (x2 : Int), ref05_Row.l0 a0 a1 k x2 = some r1 ∧ Fr 26 [(0, .slice A_a0 a0.length c_a0), (1, .slice A_a1 a1.length c_a1), (5, .int .i64 x2)] a ∧ Inv w0 Z w A) ?_ FU a w ⟨0, h1, ha.keep [0, 1, 5] (by kernel_rfl), hI⟩)
      clear h1 hI
      rintro k a w ⟨x2, h1, ha, hI⟩
      rcases k with _ | k
      · cases h1
      simp only [ref05_Row.l0] at h1
      refine CodT.of ?_ ha
      refine CodT.seq ?_
      refine CodT.seq ?_
      refine CodT.regionL [0, 1, 2, 3] (by kernel_rfl) ?_
      refine OpsT.pures (r := []) [0, 1, 2, 3] [0, 1, 5, 14] (S' := [(0, .slice A_a0 a0.length c_a0), (1, .slice A_a1 a1.length c_a1), (5, .int .i64 x2), (14, .bool (decide (x2 < (a0.length : Int))))]) (by kernel_rfl) ?_
      refine OpsT.done ?_
      refine Qn.then ?_
      by_cases hb3 : (decide (x2 < (a0.length : Int))) = true
      · rw [if_pos hb3] at h1
        refine CodT.yes' (b := decide (x2 < (a0.length : Int))) (by kernel_rfl) hb3 ?_
        refine CodT.skip ?_
        refine Qn.then ?_
        refine CodT.seq ?_
        refine CodT.block ?_
        refine CodT.seq ?_
        refine CodT.drawI (n := 9) [] (by kernel_rfl) (by kernel_rfl) hI ?_
        intro w hI
        refine GmT.p' 0 17 (.slice A_a0 a0.length c_a0) (by kernel_rfl) (by kernel_rfl) ?_
        refine GmT.p' 1 18 (.int .i64 x2) (by kernel_rfl) (by kernel_rfl) ?_
        refine GmT.p' 4 21 (.slice A_a1 a1.length c_a1) (by kernel_rfl) (by kernel_rfl) ?_
        refine GmT.p' 5 22 (.int .i64 x2) (by kernel_rfl) (by kernel_rfl) ?_
        obtain ⟨hg4, h1⟩ := guardS h1
        obtain ⟨g5, o9, hA6, hr7, hl8⟩ := RdS.get hr_a0 hg4.1 hg4.2
        refine GmT.r (i := 2) 2 (by kernel_rfl) (by kernel_rfl) (Yl.indexSlice (d := 19) (T := 23) (cc := c_a0) (k := .i64) (j := x2) (g := g5) (o := o9) (by kernel_rfl) Go.Proofs.Try.underlying23 ty3 hA6 hg4.1 hg4.2) hI ?_
        refine GmT.r (i := 3) 2 (by kernel_rfl) (by kernel_rfl) (Yl.load (d := 20) (T := 3) (v := .int .i64 (gt a0 x2)) (by kernel_rfl) (ldR ty3 (v := .int .i64 (gt a0 x2)) 0 (fun w hC => hr7 w0 w _ hC) (by kernel_rfl))) hI ?_
        obtain ⟨hg10, h1⟩ := guardS h1
        obtain ⟨g11, o15, hA12, hr13, hl14⟩ := RdS.get hr_a1 hg10.1 hg10.2
        refine GmT.r (i := 6) 2 (by kernel_rfl) (by kernel_rfl) (Yl.indexSlice (d := 23) (T := 23) (cc := c_a1) (k := .i64) (j := x2) (g := g11) (o := o15) (by kernel_rfl) Go.Proofs.Try.underlying23 ty3 hA12 hg10.1 hg10.2) hI ?_
        refine GmT.r (i := 7) 2 (by kernel_rfl) (by kernel_rfl) (Yl.load (d := 24) (T := 3) (v := .int .i64 (gt a1 x2)) (by kernel_rfl) (ldR ty3 (v := .int .i64 (gt a1 x2)) 0 (fun w hC => hr13 w0 w _ hC) (by kernel_rfl))) hI ?_
        refine GmT.p' 8 25 (.bool ((gt a0 x2) != (gt a1 x2))) (by kernel_rfl) (by kernel_rfl) ?_
        refine GmT.done (by kernel_rfl) ?_
        refine Qn.then ?_
        by_cases hb16 : ((gt a0 x2) != (gt a1 x2)) = true
        · rw [if_pos hb16] at h1
          refine CodT.yes' (b := (gt a0 x2) != (gt a1 x2)) (by kernel_rfl) hb16 ?_
          refine CodT.seq ?_
          refine CodT.regionL [0] (by kernel_rfl) ?_
          refine OpsT.pures (r := []) [0] [4] (S' := [(4, .bool false)]) (by kernel_rfl) ?_
          refine OpsT.done ?_
          refine Qn.then ?_
          refine CodT.ret ?_
          refine Qn.block_ret ?_
          refine Qn.ret_then ?_
          refine Qn.ret_then ?_
          refine Qn.block_ret ?_
          refine Qn.ret_then ?_
          refine Qn.ret_then ?_
          have e := someS h1
          subst e
          try dsimp only at h0
          have e := someS h0
          subst e
          refine Qn.keep [4] (S' := [(4, .bool false)]) (by kernel_rfl) ?_
          exact post_ret (v := .bool false) (fun a ha => RunRes.run (vs := [.bool false]) (.tmp (t := 4) (by kernel_rfl) .nil) ha (by kernel_rfl)) ⟨rfl, hI⟩
        · rw [if_neg hb16] at h1
          refine CodT.no' (b := (gt a0 x2) != (gt a1 x2)) (by kernel_rfl) (by simpa using hb16) ?_
          refine CodT.skip ?_
          refine Qn.block_normal ?_
          refine Qn.then ?_
          refine CodT.regionL [0, 1, 2] (by kernel_rfl) ?_
          refine OpsT.pures (r := []) [0, 1, 2] [0, 1, 5] (S' := [(0, .slice A_a0 a0.length c_a0), (1, .slice A_a1 a1.length c_a1), (5, .int .i64 (wi64 (x2 + 1)))]) (by kernel_rfl) ?_
          refine OpsT.done ?_
          exact Qn.thenJ fun a ha => ⟨k, Nat.lt_succ_self k, wi64 (x2 + 1), h1, ha.keep [0, 1, 5] (by kernel_rfl), hI⟩
      · rw [if_neg hb3] at h1
        refine CodT.no' (b := decide (x2 < (a0.length : Int))) (by kernel_rfl) (by simpa using hb3) ?_
        refine CodT.exit ?_
        refine Qn.exit_then ?_
        refine Qn.exit_then ?_
        refine Qn.block ?_
        have e := someS h1
        subst e
        exact Qn.thenJ fun a ha => ⟨rfl, ha.keep [] (by kernel_rfl), hI⟩
    ·
      rintro a w ⟨rfl, ha, hI⟩
      try dsimp only at h0
      refine Qn.of ?_ ha
      refine Qn.then ?_
      refine CodT.seq ?_
      refine CodT.regionL [0] (by kernel_rfl) ?_
      refine OpsT.pures (r := []) [0] [4] (S' := [(4, .bool true)]) (by kernel_rfl) ?_
      refine OpsT.done ?_
      refine Qn.then ?_
      refine CodT.ret ?_
      have e := someS h0
      subst e
      refine Qn.keep [4] (S' := [(4, .bool true)]) (by kernel_rfl) ?_
      exact post_ret (v := .bool true) (fun a ha => RunRes.run (vs := [.bool true]) (.tmp (t := 4) (by kernel_rfl) .nil) ha (by kernel_rfl)) ⟨rfl, hI⟩
set_option maxRecDepth 100000 in
set_option maxHeartbeats 4000000 in
/-- cenotaph/cenotaphref15.Same -/
theorem c13 (w0 w : World) (Z : Hp) (A : HP) (hI : Inv w0 Z w A) (A_a0_Map : Option Addr) (c_a0_Map : Nat) (a0_Map : (List Ref15Entry)) (hr_a0_Map : RdS Z c_Ref15Entry 4 A_a0_Map c_a0_Map a0_Map) (A_a0_Gone : Option Addr) (c_a0_Gone : Nat) (a0_Gone : (List Int)) (hr_a0_Gone : RdS Z (cI .i64) 1 A_a0_Gone c_a0_Gone a0_Gone) (A_a1_Map : Option Addr) (c_a1_Map : Nat) (a1_Map : (List Ref15Entry)) (hr_a1_Map : RdS Z c_Ref15Entry 4 A_a1_Map c_a1_Map a1_Map) (A_a1_Gone : Option Addr) (c_a1_Gone : Nat) (a1_Gone : (List Int)) (hr_a1_Gone : RdS Z (cI .i64) 1 A_a1_Gone c_a1_Gone a1_Gone) (r : Bool) (h0 : ref15_Same a0_Map a0_Gone a1_Map a1_Gone = some r) :
    Calls prog 13 #[.agg ((([.slice A_a0_Map a0_Map.length c_a0_Map, .slice A_a0_Gone a0_Gone.length c_a0_Gone] : List Value))).toArray, .agg ((([.slice A_a1_Map a1_Map.length c_a1_Map, .slice A_a1_Gone a1_Gone.length c_a1_Gone] : List Value))).toArray] w (fun e w' => e = .returned (.bool r) ∧ Inv w0 Z w' A) := by
  have e4 := calls_intro (R := (fun e w' => e = .returned (.bool r) ∧ Inv w0 Z w' A)) (w := w) (args := [.agg ((([.slice A_a0_Map a0_Map.length c_a0_Map, .slice A_a0_Gone a0_Gone.length c_a0_Gone] : List Value))).toArray, .agg ((([.slice A_a1_Map a1_Map.length c_a1_Map, .slice A_a1_Gone a1_Gone.length c_a1_Gone] : List Value))).toArray]) (fn := Go.Proofs.Try.f13) 36 Go.Proofs.Try.func13 (by rfl) Go.Proofs.Try.ntmps13 (by kernel_rfl)
  refine e4 ?_
  clear e4
  unfold ref15_Same at h0
  refine CodT.seq ?_
  refine CodT.regionL [0, 1, 2] (by kernel_rfl) ?_
  refine OpsT.cons (Does.boxL (d := 2) (T := 30) (v := .agg ((([.slice A_a0_Map a0_Map.length c_a0_Map, .slice A_a0_Gone a0_Gone.length c_a0_Gone] : List Value))).toArray) ((([.slice A_a0_Map a0_Map.length c_a0_Map, .slice A_a0_Gone a0_Gone.length c_a0_Gone] : List Value))) (by kernel_rfl) hI (by kernel_rfl) ?_)
  intro b1 w hI
  refine OpsT.cons (Does.boxL (d := 3) (T := 30) (v := .agg ((([.slice A_a1_Map a1_Map.length c_a1_Map, .slice A_a1_Gone a1_Gone.length c_a1_Gone] : List Value))).toArray) ((([.slice A_a1_Map a1_Map.length c_a1_Map, .slice A_a1_Gone a1_Gone.length c_a1_Gone] : List Value))) (by kernel_rfl) hI (by kernel_rfl) ?_)
  intro b2 w hI
  refine OpsT.pures (r := []) [2] [2, 3] (S' := [(2, .pointer (some ⟨b1, 0, none⟩)), (3, .pointer (some ⟨b2, 0, none⟩))]) (by kernel_rfl) ?_
  refine OpsT.done ?_
  refine Qn.then ?_
  refine CodT.seq ?_
  refine CodT.seq ?_
  refine CodT.regionL [0, 1, 2, 3, 4, 5, 6] (by kernel_rfl) ?_
  refine OpsT.pures (r := [1, 2, 3, 4, 5, 6]) [0] [2, 3, 6] (S' := [(2, .pointer (some ⟨b1, 0, none⟩)), (3, .pointer (some ⟨b2, 0, none⟩)), (6, .pointer (some ⟨b1, 0, none⟩))]) (by kernel_rfl) ?_
  refine OpsT.cons (Does.yi (Yl.load (d := 7) (T := 28) (v := .slice A_a0_Map a0_Map.length c_a0_Map) (by kernel_rfl) (ldB ty28 (l := (([.slice A_a0_Map a0_Map.length c_a0_Map, .slice A_a0_Gone a0_Gone.length c_a0_Gone] : List Value))) (o := 0) (v := .slice A_a0_Map a0_Map.length c_a0_Map) (pick2 _ _ _) (by kernel_rfl))) hI ?_)
  refine OpsT.pures (r := [4, 5, 6]) [2, 3] [2, 3, 8, 9] (S' := [(2, .pointer (some ⟨b1, 0, none⟩)), (3, .pointer (some ⟨b2, 0, none⟩)), (8, .int .i64 (a0_Map.length : Int)), (9, .pointer (some ⟨b2, 0, none⟩))]) (by kernel_rfl) ?_
  refine OpsT.cons (Does.yi (Yl.load (d := 10) (T := 28) (v := .slice A_a1_Map a1_Map.length c_a1_Map) (by kernel_rfl) (ldB ty28 (l := (([.slice A_a1_Map a1_Map.length c_a1_Map, .slice A_a1_Gone a1_Gone.length c_a1_Gone] : List Value))) (o := 0) (v := .slice A_a1_Map a1_Map.length c_a1_Map) (ent_refl _) (by kernel_rfl))) hI ?_)
  refine OpsT.pures (r := []) [5, 6] [2, 3, 12] (S' := [(2, .pointer (some ⟨b1, 0, none⟩)), (3, .pointer (some ⟨b2, 0, none⟩)), (12, .bool ((a0_Map.length : Int) != (a1_Map.length : Int)))]) (by kernel_rfl) ?_
  refine OpsT.done ?_
  refine Qn.then ?_
  by_cases hb3 : ((a0_Map.length : Int) != (a1_Map.length : Int)) = true
  · rw [if_pos hb3] at h0
    refine CodT.yes' (b := (a0_Map.length : Int) != (a1_Map.length : Int)) (by kernel_rfl) hb3 ?_
    refine CodT.seq ?_
    refine CodT.regionL [0] (by kernel_rfl) ?_
    refine OpsT.pures (r := []) [0] [4] (S' := [(4, .bool false)]) (by kernel_rfl) ?_
    refine OpsT.done ?_
    refine Qn.then ?_
    refine CodT.ret ?_
    refine Qn.ret_then ?_
    have hI := hI.drop
    have hI := hI.drop
    have e := someS h0
    subst e
    refine Qn.keep [4] (S' := [(4, .bool false)]) (by kernel_rfl) ?_
    exact post_ret (v := .bool false) (fun a ha => RunRes.run (vs := [.bool false]) (.tmp (t := 4) (by kernel_rfl) .nil) ha (by kernel_rfl)) ⟨rfl, hI⟩
  · rw [if_neg hb3] at h0
    refine CodT.no' (b := (a0_Map.length : Int) != (a1_Map.length : Int)) (by kernel_rfl) (by simpa using hb3) ?_
    refine CodT.skip ?_
    refine Qn.then ?_
    refine CodT.seq ?_
    refine CodT.seq ?_
    refine CodT.regionL [0] (by kernel_rfl) ?_
    refine OpsT.pures (r := []) [0] [2, 3, 5] (S' := [(2, .pointer (some ⟨b1, 0, none⟩)), (3, .pointer (some ⟨b2, 0, none⟩)), (5, .int .i64 0)]) (by kernel_rfl) ?_
    refine OpsT.done ?_
    refine Qn.then ?_
    obtain ⟨r1, h1, h0⟩ := bindS h0
    refine CodT.meet1 (fun a w => .inr () = r1 ∧ Fr 36 [(2, .pointer (some ⟨b1, 0, none⟩)), (3, .pointer (some ⟨b2, 0, none⟩))] a ∧ Inv w0 Z w (star (pt b2 (.cells ((([.slice A_a1_Map a1_Map.length c_a1_Map, .slice A_a1_Gone a1_Gone.length c_a1_Gone] : List Value))).toArray 30 (0, 0))) (star (pt b1 (.cells ((([.slice A_a0_Map a0_Map.length c_a0_Map, .slice A_a0_Gone a0_Gone.length c_a0_Gone] : List Value))).toArray 30 (0, 0))) A))) ?_ ?_
    ·
      refine CodT.block ?_
      refine (fun a ha => wp_loopN (fun k a w => ∃ (x4 : Int), ref15_Same.l0 a0_Map a1_Map k x4 = some r1 ∧ Fr 36 [(2, .pointer (some ⟨b1, 0, none⟩)), (3, .pointer (some ⟨b2, 0, none⟩)), (5, .int .i64 x4)] a ∧ Inv w0 Z w (star (pt b2 (.cells ((([.slice A_a1_Map a1_Map.length c_a1_Map, .slice A_a1_Gone a1_Gone.length c_a1_Gone] : List Value))).toArray 30 (0, 0))) (star (pt b1 (.cells ((([.slice A_a0_Map a0_Map.length c_a0_Map, .slice A_a0_Gone a0_Gone.length c_a0_Gone] : List Value))).toArray 30 (0, 0))) A))) ?_ FU a w ⟨0, h1, ha.keep [2, 3, 5] (by kernel_rfl), hI⟩)
      clear h1 hI
      rintro k a w ⟨x4, h1, ha, hI⟩
      rcases k with _ | k
      · cases h1
      simp only [ref15_Same.l0] at h1
      refine CodT.of ?_ ha
      refine CodT.seq ?_
      refine CodT.seq ?_
      refine CodT.regionL [0, 1, 2, 3, 4] (by kernel_rfl) ?_
      refine OpsT.pures (r := [2, 3, 4]) [0, 1] [2, 3, 5, 13, 14] (S' := [(2, .pointer (some ⟨b1, 0, none⟩)), (3, .pointer (some ⟨b2, 0, none⟩)), (5, .int .i64 x4), (13, .int .i64 x4), (14, .pointer (some ⟨b1, 0, none⟩))]) (by kernel_rfl) ?_
      refine OpsT.cons (Does.yi (Yl.load (d := 15) (T := 28) (v := .slice A_a0_Map a0_Map.length c_a0_Map) (by kernel_rfl) (ldB ty28 (l := (([.slice A_a0_Map a0_Map.length c_a0_Map, .slice A_a0_Gone a0_Gone.length c_a0_Gone] : List Value))) (o := 0) (v := .slice A_a0_Map a0_Map.length c_a0_Map) (pick2 _ _ _) (by kernel_rfl))) hI ?_)
      refine OpsT.pures (r := []) [3, 4] [2, 3, 5, 17] (S' := [(2, .pointer (some ⟨b1, 0, none⟩)), (3, .pointer (some ⟨b2, 0, none⟩)), (5, .int .i64 x4), (17, .bool (decide (x4 < (a0_Map.length : Int))))]) (by kernel_rfl) ?_
      refine OpsT.done ?_
      refine Qn.then ?_
      by_cases hb5 : (decide (x4 < (a0_Map.length : Int))) = true
      · rw [if_pos hb5] at h1
        refine CodT.yes' (b := decide (x4 < (a0_Map.length : Int))) (by kernel_rfl) hb5 ?_
        refine CodT.skip ?_
        refine Qn.then ?_
        refine CodT.seq ?_
        refine CodT.block ?_
        refine CodT.seq ?_
        refine CodT.drawI (n := 11) [] (by kernel_rfl) (by kernel_rfl) hI ?_
        intro w hI
        refine GmT.p' 0 20 (.pointer (some ⟨b1, 0, none⟩)) (by kernel_rfl) (by kernel_rfl) ?_
        refine GmT.p' 2 22 (.int .i64 x4) (by kernel_rfl) (by kernel_rfl) ?_
        refine GmT.p' 5 25 (.pointer (some ⟨b2, 0, none⟩)) (by kernel_rfl) (by kernel_rfl) ?_
        refine GmT.p' 7 27 (.int .i64 x4) (by kernel_rfl) (by kernel_rfl) ?_
        refine GmT.r (i := 1) 2 (by kernel_rfl) (by kernel_rfl) (Yl.load (d := 21) (T := 28) (v := .slice A_a0_Map a0_Map.length c_a0_Map) (by kernel_rfl) (ldB ty28 (l := (([.slice A_a0_Map a0_Map.length c_a0_Map, .slice A_a0_Gone a0_Gone.length c_a0_Gone] : List Value))) (o := 0) (v := .slice A_a0_Map a0_Map.length c_a0_Map) (pick2 _ _ _) (by kernel_rfl))) hI ?_
        obtain ⟨hg6, h1⟩ := guardS h1
        obtain ⟨g7, o11, hA8, hr9, hl10⟩ := RdS.get hr_a0_Map hg6.1 hg6.2
        refine GmT.r (i := 3) 2 (by kernel_rfl) (by kernel_rfl) (Yl.indexSlice (d := 23) (T := 28) (cc := c_a0_Map) (k := .i64) (j := x4) (g := g7) (o := o11) (by kernel_rfl) Go.Proofs.Try.underlying28 ty69 hA8 hg6.1 hg6.2) hI ?_
        refine GmT.r (i := 4) 2 (by kernel_rfl) (by kernel_rfl) (Yl.load (d := 24) (T := 69) (v := .agg (c_Ref15Entry (gt a0_Map x4)).toArray) (by kernel_rfl) (ldRN ty69 (cs := c_Ref15Entry (gt a0_Map x4)) 0 (fun w hC => hr9 w0 w _ hC) hl10 (whole _ _ hl10))) hI ?_
        refine GmT.r (i := 6) 2 (by kernel_rfl) (by kernel_rfl) (Yl.load (d := 26) (T := 28) (v := .slice A_a1_Map a1_Map.length c_a1_Map) (by kernel_rfl) (ldB ty28 (l := (([.slice A_a1_Map a1_Map.length c_a1_Map, .slice A_a1_Gone a1_Gone.length c_a1_Gone] : List Value))) (o := 0) (v := .slice A_a1_Map a1_Map.length c_a1_Map) (ent_refl _) (by kernel_rfl))) hI ?_
        obtain ⟨hg12, h1⟩ := guardS h1
        obtain ⟨g13, o17, hA14, hr15, hl16⟩ := RdS.get hr_a1_Map hg12.1 hg12.2
        refine GmT.r (i := 8) 2 (by kernel_rfl) (by kernel_rfl) (Yl.indexSlice (d := 28) (T := 28) (cc := c_a1_Map) (k := .i64) (j := x4) (g := g13) (o := o17) (by kernel_rfl) Go.Proofs.Try.underlying28 ty69 hA14 hg12.1 hg12.2) hI ?_
        refine GmT.r (i := 9) 2 (by kernel_rfl) (by kernel_rfl) (Yl.load (d := 29) (T := 69) (v := .agg (c_Ref15Entry (gt a1_Map x4)).toArray) (by kernel_rfl) (ldRN ty69 (cs := c_Ref15Entry (gt a1_Map x4)) 0 (fun w hC => hr15 w0 w _ hC) hl16 (whole _ _ hl16))) hI ?_
        refine GmT.r (i := 10) 2 (by kernel_rfl) (by kernel_rfl) (Yl.neqS (d := 30) (T := 69) (xs := ([.int .i64 ((gt a0_Map x4).Logic), .int .i64 ((gt a0_Map x4).Owner), .int .i64 ((gt a0_Map x4).Block), .int .i64 ((gt a0_Map x4).At)] : List Value)) (ys := ([.int .i64 ((gt a1_Map x4).Logic), .int .i64 ((gt a1_Map x4).Owner), .int .i64 ((gt a1_Map x4).Block), .int .i64 ((gt a1_Map x4).At)] : List Value)) (r := eq_Ref15Entry (gt a0_Map x4) (gt a1_Map x4)) (by kernel_rfl) Go.Proofs.Try.underlying69 (by kernel_rfl) (by kernel_rfl) (.cons rfl (part1 (v := .int .i64 ((gt a0_Map x4).Logic)) ty3 (by kernel_rfl)) (part1 (v := .int .i64 ((gt a1_Map x4).Logic)) ty3 (by kernel_rfl)) (eqI Go.Proofs.Try.underlying3) (.cons rfl (part1 (v := .int .i64 ((gt a0_Map x4).Owner)) ty3 (by kernel_rfl)) (part1 (v := .int .i64 ((gt a1_Map x4).Owner)) ty3 (by kernel_rfl)) (eqI Go.Proofs.Try.underlying3) (.cons rfl (part1 (v := .int .i64 ((gt a0_Map x4).Block)) ty3 (by kernel_rfl)) (part1 (v := .int .i64 ((gt a1_Map x4).Block)) ty3 (by kernel_rfl)) (eqI Go.Proofs.Try.underlying3) (.cons rfl (part1 (v := .int .i64 ((gt a0_Map x4).At)) ty3 (by kernel_rfl)) (part1 (v := .int .i64 ((gt a1_Map x4).At)) ty3 (by kernel_rfl)) (eqI Go.Proofs.Try.underlying3) .nil))))) hI ?_
        refine GmT.done (by kernel_rfl) ?_
        refine Qn.then ?_
        by_cases hb18 : (!(eq_Ref15Entry (gt a0_Map x4) (gt a1_Map x4))) = true
        · rw [if_pos hb18] at h1
          refine CodT.yes' (b := !(eq_Ref15Entry (gt a0_Map x4) (gt a1_Map x4))) (by kernel_rfl) hb18 ?_
          refine CodT.seq ?_
          refine CodT.regionL [0] (by kernel_rfl) ?_
          refine OpsT.pures (r := []) [0] [4] (S' := [(4, .bool false)]) (by kernel_rfl) ?_
          refine OpsT.done ?_
          refine Qn.then ?_
          refine CodT.ret ?_
          refine Qn.block_ret ?_
          refine Qn.ret_then ?_
          refine Qn.ret_then ?_
          refine Qn.block_ret ?_
          refine Qn.ret_then ?_
          refine Qn.ret_then ?_
          have hI := hI.drop
          have hI := hI.drop
          have e := someS h1
          subst e
          try dsimp only at h0
          have e := someS h0
          subst e
          refine Qn.keep [4] (S' := [(4, .bool false)]) (by kernel_rfl) ?_
          exact post_ret (v := .bool false) (fun a ha => RunRes.run (vs := [.bool false]) (.tmp (t := 4) (by kernel_rfl) .nil) ha (by kernel_rfl)) ⟨rfl, hI⟩
        · rw [if_neg hb18] at h1
          refine CodT.no' (b := !(eq_Ref15Entry (gt a0_Map x4) (gt a1_Map x4))) (by kernel_rfl) (by simpa using hb18) ?_
          refine CodT.skip ?_
          refine Qn.block_normal ?_
          refine Qn.then ?_
          refine CodT.regionL [0, 1, 2] (by kernel_rfl) ?_
          refine OpsT.pures (r := []) [0, 1, 2] [2, 3, 5] (S' := [(2, .pointer (some ⟨b1, 0, none⟩)), (3, .pointer (some ⟨b2, 0, none⟩)), (5, .int .i64 (wi64 (x4 + 1)))]) (by kernel_rfl) ?_
          refine OpsT.done ?_
          exact Qn.thenJ fun a ha => ⟨k, Nat.lt_succ_self k, wi64 (x4 + 1), h1, ha.keep [2, 3, 5] (by kernel_rfl), hI⟩
      · rw [if_neg hb5] at h1
        refine CodT.no' (b := decide (x4 < (a0_Map.length : Int))) (by kernel_rfl) (by simpa using hb5) ?_
        refine CodT.exit ?_
        refine Qn.exit_then ?_
        refine Qn.exit_then ?_
        refine Qn.block ?_
        have e := someS h1
        subst e
        exact Qn.thenJ fun a ha => ⟨rfl, ha.keep [2, 3] (by kernel_rfl), hI⟩
    ·
      rintro a w ⟨rfl, ha, hI⟩
      try dsimp only at h0
      refine Qn.of ?_ ha
      refine Qn.then ?_
      refine CodT.seq ?_
      refine CodT.regionL [0, 1, 2, 3, 4, 5] (by kernel_rfl) ?_
      refine OpsT.pures (r := [1, 2, 3, 4, 5]) [0] [3, 31] (S' := [(3, .pointer (some ⟨b2, 0, none⟩)), (31, .pointer (some ⟨b1, 1, none⟩))]) (by kernel_rfl) ?_
      refine OpsT.cons (Does.yi (Yl.load (d := 32) (T := 23) (v := .slice A_a0_Gone a0_Gone.length c_a0_Gone) (by kernel_rfl) (ldB ty23 (l := (([.slice A_a0_Map a0_Map.length c_a0_Map, .slice A_a0_Gone a0_Gone.length c_a0_Gone] : List Value))) (o := 1) (v := .slice A_a0_Gone a0_Gone.length c_a0_Gone) (pick2 _ _ _) (by kernel_rfl))) hI ?_)
      refine OpsT.pures (r := [3, 4, 5]) [2] [32, 33] (S' := [(32, .slice A_a0_Gone a0_Gone.length c_a0_Gone), (33, .pointer (some ⟨b2, 1, none⟩))]) (by kernel_rfl) ?_
      refine OpsT.cons (Does.yi (Yl.load (d := 34) (T := 23) (v := .slice A_a1_Gone a1_Gone.length c_a1_Gone) (by kernel_rfl) (ldB ty23 (l := (([.slice A_a1_Map a1_Map.length c_a1_Map, .slice A_a1_Gone a1_Gone.length c_a1_Gone] : List Value))) (o := 1) (v := .slice A_a1_Gone a1_Gone.length c_a1_Gone) (ent_refl _) (by kernel_rfl))) hI ?_)
      obtain ⟨y20, hc19, h0⟩ := bindS h0
      try dsimp only at h0
      refine OpsT.cons (Does.call (d := some 35) (n := 35) (vs := [.slice A_a0_Gone a0_Gone.length c_a0_Gone, .slice A_a1_Gone a1_Gone.length c_a1_Gone]) (by kernel_rfl) en35 (c35 w0 w _ _ hI A_a0_Gone c_a0_Gone a0_Gone hr_a0_Gone A_a1_Gone c_a1_Gone a1_Gone hr_a1_Gone _ hc19) ?_)
      rintro e w ⟨rfl, hI⟩
      refine ⟨_, rfl, ?_⟩
      refine OpsT.pures (r := []) [5] [4] (S' := [(4, .bool y20)]) (by kernel_rfl) ?_
      refine OpsT.done ?_
      refine Qn.then ?_
      refine CodT.ret ?_
      have hI := hI.drop
      have hI := hI.drop
      have e := someS h0
      subst e
      refine Qn.keep [4] (S' := [(4, .bool y20)]) (by kernel_rfl) ?_
      exact post_ret (v := .bool y20) (fun a ha => RunRes.run (vs := [.bool y20]) (.tmp (t := 4) (by kernel_rfl) .nil) ha (by kernel_rfl)) ⟨rfl, hI⟩
set_option maxRecDepth 100000 in
set_option maxHeartbeats 4000000 in
/-- cenotaph/cenotaphref04.Num -/
theorem c51 (w0 w : World) (Z : Hp) (A : HP) (hI : Inv w0 Z w A) (a0 : Int) (r : ByteArray) (h0 : ref04_Num a0 = some r) :
    Calls prog 51 #[.int .i64 a0] w (fun e w' => e = .returned (.string r) ∧ Inv w0 Z w' A) := by
  have e4 := calls_intro (R := (fun e w' => e = .returned (.string r) ∧ Inv w0 Z w' A)) (w := w) (args := [.int .i64 a0]) (fn := Go.Proofs.Try.f51) 24 Go.Proofs.Try.func51 (by rfl) Go.Proofs.Try.ntmps51 (by kernel_rfl)
  refine e4 ?_
  clear e4
  unfold ref04_Num at h0
  refine CodT.seq ?_
  refine CodT.regionL [0] (by kernel_rfl) ?_
  refine OpsT.pures (r := []) [0] [0] (S' := [(0, .int .i64 a0)]) (by kernel_rfl) ?_
  refine OpsT.done ?_
  refine Qn.then ?_
  refine CodT.seq ?_
  refine CodT.regionL [0, 1, 2, 3] (by kernel_rfl) ?_
  refine OpsT.pures (r := []) [0, 1, 2, 3] [0] (S' := [(0, .int .i64 (if 1125899906842624 < (if 0 > a0 then 0 else a0) then 1125899906842624 else if 0 > a0 then 0 else a0))]) (by kernel_rfl) ?_
  refine OpsT.done ?_
  refine Qn.then ?_
  refine CodT.seq ?_
  refine CodT.regionL [0] (by kernel_rfl) ?_
  refine OpsT.pures (r := []) [0] [0, 3] (S' := [(0, .int .i64 (if 1125899906842624 < (if 0 > a0 then 0 else a0) then 1125899906842624 else if 0 > a0 then 0 else a0)), (3, .slice none 0 0)]) (by kernel_rfl) ?_
  refine OpsT.done ?_
  refine Qn.then ?_
  refine CodT.seq ?_
  obtain ⟨r1, h1, h0⟩ := bindS h0
  refine CodT.meet1 (fun a w => ∃ (x1 : Int) (x2 : (List Int)) (A3 : Option Addr) (cp4 : Nat), (x1, x2) = r1 ∧ Fr 24 [(0, .int .i64 x1), (3, .slice A3 x2.length cp4)] a ∧ Inv w0 Z w (star (ownS 5 (cI .u8) 1 A3 cp4 x2) A)) ?_ ?_
  ·
    refine CodT.block ?_
    have hI := ownS_nil (α := Int) hI 5 (cI .u8) 1
    refine (fun a ha => wp_loopN (fun k a w => ∃ (x5 : Int) (x6 : (List Int)) (A7 : Option Addr) (cp8 : Nat), ref04_Num.l0 k x5 x6 = some r1 ∧ Fr 24 [(0, .int .i64 x5), (3, .slice A7 x6.length cp8)] a ∧ Inv w0 Z w (star (ownS 5 (cI .u8) 1 A7 cp8 x6) A)) ?_ FU a w ⟨if 1125899906842624 < (if 0 > a0 then 0 else a0) then 1125899906842624 else if 0 > a0 then 0 else a0, ([] : List Int), none, 0, h1, ha.keep [0, 3] (by kernel_rfl), hI⟩)
    clear h1 hI
    rintro k a w ⟨x5, x6, A7, cp8, h1, ha, hI⟩
    rcases k with _ | k
    · cases h1
    simp only [ref04_Num.l0] at h1
    refine CodT.of ?_ ha
    refine CodT.seq ?_
    refine CodT.seq ?_
    refine CodT.regionL [0, 1] (by kernel_rfl) ?_
    refine OpsT.pures (r := []) [0, 1] [0, 3, 8] (S' := [(0, .int .i64 x5), (3, .slice A7 x6.length cp8), (8, .bool (decide (x5 ≥ 128)))]) (by kernel_rfl) ?_
    refine OpsT.done ?_
    refine Qn.then ?_
    by_cases hb9 : (decide (x5 ≥ 128)) = true
    · rw [if_pos hb9] at h1
      refine CodT.yes' (b := decide (x5 ≥ 128)) (by kernel_rfl) hb9 ?_
      refine CodT.skip ?_
      refine Qn.then ?_
      refine CodT.block ?_
      refine CodT.seq ?_
      refine CodT.regionL [0, 1, 2, 3, 4, 5, 6, 7] (by kernel_rfl) ?_
      refine OpsT.pures (r := [5, 6, 7]) [0, 1, 2, 3, 4] [0, 9, 13] (S' := [(0, .int .i64 x5), (9, .slice A7 x6.length cp8), (13, .int .u8 (wu8 (wi64 ((x5.tmod 128) + 128))))]) (by kernel_rfl) ?_
      refine OpsT.cons (Does.buildSlice (en := (cI .u8)) (d := 14) (n := 1) (T := 68) (ps := [(0, .int .u8 (wu8 (wi64 ((x5.tmod 128) + 128))))]) ([wu8 (wi64 ((x5.tmod 128) + 128))] : List Int) (by kernel_rfl) Go.Proofs.Try.underlying68 ty5 (by kernel_rfl) (by kernel_rfl) (by kernel_rfl) (by kernel_rfl) (len_all (fun _ => rfl)) hI ?_)
      intro b10 w hI
      obtain ⟨hg11, h1⟩ := guardS h1
      have hI := hI.mono (pick2 _ _ _)
      refine OpsT.cons (Does.append (d := 15) (t := 68) (tx := 68) (ty := 68) (ys := x6) (zs := ([wu8 (wi64 ((x5.tmod 128) + 128))] : List Int)) (x := .slice (some ⟨b10, 0, none⟩) (([wu8 (wi64 ((x5.tmod 128) + 128))] : List Int).length) 1) (by kernel_rfl) Go.Proofs.Try.underlying68 ty5 (by kernel_rfl) hI (src_own Go.Proofs.Try.underlying68 (hI.mono (pick2 _ _ _)) (one_flat _ (fun _ => rfl))) (ownS_facts (hI.mono (pick2 _ _ _))).2.2 (by unfold LIM at hg11; omega) hg11 ?_)
      intro A12 cp13 w hI
      refine OpsT.pures (r := []) [7] [0, 3] (S' := [(0, .int .i64 x5), (3, .slice A12 ((x6 ++ ([wu8 (wi64 ((x5.tmod 128) + 128))] : List Int)).length) cp13)]) (by kernel_rfl) ?_
      refine OpsT.done ?_
      refine Qn.then ?_
      refine CodT.regionL [0, 1, 2] (by kernel_rfl) ?_
      refine OpsT.pures (r := []) [0, 1, 2] [0, 3] (S' := [(0, .int .i64 (wi64 (x5.tdiv 128))), (3, .slice A12 ((x6 ++ ([wu8 (wi64 ((x5.tmod 128) + 128))] : List Int)).length) cp13)]) (by kernel_rfl) ?_
      refine OpsT.done ?_
      refine Qn.block_normal ?_
      have hI := hI.mono (pick2 _ _ _)
      have hI := hI.drop
      exact Qn.thenJ fun a ha => ⟨k, Nat.lt_succ_self k, wi64 (x5.tdiv 128), x6 ++ ([wu8 (wi64 ((x5.tmod 128) + 128))] : List Int), A12, cp13, h1, ha.keep [0, 3] (by kernel_rfl), hI⟩
    · rw [if_neg hb9] at h1
      refine CodT.no' (b := decide (x5 ≥ 128)) (by kernel_rfl) (by simpa using hb9) ?_
      refine CodT.exit ?_
      refine Qn.exit_then ?_
      refine Qn.exit_then ?_
      refine Qn.block ?_
      have e := someS h1
      subst e
      exact Qn.thenJ fun a ha => ⟨x5, x6, A7, cp8, rfl, ha.keep [0, 3] (by kernel_rfl), hI⟩
  ·
    rintro a w ⟨x1, x2, A3, cp4, rfl, ha, hI⟩
    try dsimp only at h0
    refine Qn.of ?_ ha
    refine Qn.then ?_
    refine CodT.seq ?_
    refine CodT.regionL [0, 1, 2, 3, 4, 5, 6] (by kernel_rfl) ?_
    refine OpsT.pures (r := [3, 4, 5, 6]) [0, 1, 2] [18, 20] (S' := [(18, .slice A3 x2.length cp4), (20, .int .u8 (wu8 x1))]) (by kernel_rfl) ?_
    refine OpsT.cons (Does.buildSlice (en := (cI .u8)) (d := 21) (n := 1) (T := 68) (ps := [(0, .int .u8 (wu8 x1))]) ([wu8 x1] : List Int) (by kernel_rfl) Go.Proofs.Try.underlying68 ty5 (by kernel_rfl) (by kernel_rfl) (by kernel_rfl) (by kernel_rfl) (len_all (fun _ => rfl)) hI ?_)
    intro b14 w hI
    obtain ⟨hg15, h0⟩ := guardS h0
    have hI := hI.mono (pick2 _ _ _)
    refine OpsT.cons (Does.append (d := 22) (t := 68) (tx := 68) (ty := 68) (ys := x2) (zs := ([wu8 x1] : List Int)) (x := .slice (some ⟨b14, 0, none⟩) (([wu8 x1] : List Int).length) 1) (by kernel_rfl) Go.Proofs.Try.underlying68 ty5 (by kernel_rfl) hI (src_own Go.Proofs.Try.underlying68 (hI.mono (pick2 _ _ _)) (one_flat _ (fun _ => rfl))) (ownS_facts (hI.mono (pick2 _ _ _))).2.2 (by unfold LIM at hg15; omega) hg15 ?_)
    intro A16 cp17 w hI
    refine OpsT.cons (Does.b2sOwn (d := 23) (src := 68) (dst := 9) (xs := x2 ++ ([wu8 x1] : List Int)) (by kernel_rfl) Go.Proofs.Try.underlying68 Go.Proofs.Try.underlying5 Go.Proofs.Try.underlying9 hI ?_)
    refine OpsT.pures (r := []) [6] [2] (S' := [(2, .string (strOfNums (x2 ++ ([wu8 x1] : List Int))))]) (by kernel_rfl) ?_
    refine OpsT.done ?_
    refine Qn.then ?_
    refine CodT.ret ?_
    have hI := hI.drop
    have hI := hI.drop
    have e := someS h0
    subst e
    refine Qn.keep [2] (S' := [(2, .string (strOfNums (x2 ++ ([wu8 x1] : List Int))))]) (by kernel_rfl) ?_
    exact post_ret (v := .string (strOfNums (x2 ++ ([wu8 x1] : List Int)))) (fun a ha => RunRes.run (vs := [.string (strOfNums (x2 ++ ([wu8 x1] : List Int)))]) (.tmp (t := 2) (by kernel_rfl) .nil) ha (by kernel_rfl)) ⟨rfl, hI⟩
set_option maxRecDepth 100000 in
set_option maxHeartbeats 4000000 in
/-- cenotaph/cenotaphref15.Bytes -/
theorem c50 (w0 w : World) (Z : Hp) (A : HP) (hI : Inv w0 Z w A) (A_a0_Map : Option Addr) (c_a0_Map : Nat) (a0_Map : (List Ref15Entry)) (hr_a0_Map : RdS Z c_Ref15Entry 4 A_a0_Map c_a0_Map a0_Map) (A_a0_Gone : Option Addr) (c_a0_Gone : Nat) (a0_Gone : (List Int)) (hr_a0_Gone : RdS Z (cI .i64) 1 A_a0_Gone c_a0_Gone a0_Gone) (r : ByteArray) (h0 : ref15_Bytes a0_Map a0_Gone = some r) :
    Calls prog 50 #[.agg ((([.slice A_a0_Map a0_Map.length c_a0_Map, .slice A_a0_Gone a0_Gone.length c_a0_Gone] : List Value))).toArray] w (fun e w' => e = .returned (.string r) ∧ Inv w0 Z w' A) := by
  have e4 := calls_intro (R := (fun e w' => e = .returned (.string r) ∧ Inv w0 Z w' A)) (w := w) (args := [.agg ((([.slice A_a0_Map a0_Map.length c_a0_Map, .slice A_a0_Gone a0_Gone.length c_a0_Gone] : List Value))).toArray]) (fn := Go.Proofs.Try.f50) 62 Go.Proofs.Try.func50 (by rfl) Go.Proofs.Try.ntmps50 (by kernel_rfl)
  refine e4 ?_
  clear e4
  unfold ref15_Bytes at h0
  refine CodT.seq ?_
  refine CodT.regionL [0, 1] (by kernel_rfl) ?_
  refine OpsT.cons (Does.boxL (d := 1) (T := 30) (v := .agg ((([.slice A_a0_Map a0_Map.length c_a0_Map, .slice A_a0_Gone a0_Gone.length c_a0_Gone] : List Value))).toArray) ((([.slice A_a0_Map a0_Map.length c_a0_Map, .slice A_a0_Gone a0_Gone.length c_a0_Gone] : List Value))) (by kernel_rfl) hI (by kernel_rfl) ?_)
  intro b1 w hI
  refine OpsT.pures (r := []) [1] [1] (S' := [(1, .pointer (some ⟨b1, 0, none⟩))]) (by kernel_rfl) ?_
  refine OpsT.done ?_
  refine Qn.then ?_
  refine CodT.seq ?_
  refine CodT.regionL [0, 1, 2, 3, 4] (by kernel_rfl) ?_
  refine OpsT.pures (r := [1, 2, 3, 4]) [0] [1, 7] (S' := [(1, .pointer (some ⟨b1, 0, none⟩)), (7, .pointer (some ⟨b1, 0, none⟩))]) (by kernel_rfl) ?_
  refine OpsT.cons (Does.yi (Yl.load (d := 8) (T := 28) (v := .slice A_a0_Map a0_Map.length c_a0_Map) (by kernel_rfl) (ldB ty28 (l := (([.slice A_a0_Map a0_Map.length c_a0_Map, .slice A_a0_Gone a0_Gone.length c_a0_Gone] : List Value))) (o := 0) (v := .slice A_a0_Map a0_Map.length c_a0_Map) (ent_refl _) (by kernel_rfl))) hI ?_)
  refine OpsT.pures (r := [3, 4]) [2] [1, 9] (S' := [(1, .pointer (some ⟨b1, 0, none⟩)), (9, .int .i64 (a0_Map.length : Int))]) (by kernel_rfl) ?_
  obtain ⟨y3, hc2, h0⟩ := bindS h0
  try dsimp only at h0
  refine OpsT.cons (Does.call (d := some 10) (n := 51) (vs := [.int .i64 (a0_Map.length : Int)]) (by kernel_rfl) en51 (c51 w0 w _ _ hI (a0_Map.length : Int) _ hc2) ?_)
  rintro e w ⟨rfl, hI⟩
  refine ⟨_, rfl, ?_⟩
  refine OpsT.pures (r := []) [4] [1, 3] (S' := [(1, .pointer (some ⟨b1, 0, none⟩)), (3, .string y3)]) (by kernel_rfl) ?_
  refine OpsT.done ?_
  refine Qn.then ?_
  refine CodT.seq ?_
  refine CodT.seq ?_
  refine CodT.regionL [0] (by kernel_rfl) ?_
  refine OpsT.pures (r := []) [0] [1, 3, 4] (S' := [(1, .pointer (some ⟨b1, 0, none⟩)), (3, .string y3), (4, .int .i64 0)]) (by kernel_rfl) ?_
  refine OpsT.done ?_
  refine Qn.then ?_
  obtain ⟨r1, h1, h0⟩ := bindS h0
  refine CodT.meet1 (fun a w => ∃ (x4 : ByteArray), x4 = r1 ∧ Fr 62 [(1, .pointer (some ⟨b1, 0, none⟩)), (3, .string x4)] a ∧ Inv w0 Z w (star (pt b1 (.cells ((([.slice A_a0_Map a0_Map.length c_a0_Map, .slice A_a0_Gone a0_Gone.length c_a0_Gone] : List Value))).toArray 30 (0, 0))) A)) ?_ ?_
  ·
    refine CodT.block ?_
    refine (fun a ha => wp_loopN (fun k a w => ∃ (x5 : ByteArray) (x6 : Int), ref15_Bytes.l0 a0_Map k x5 x6 = some r1 ∧ Fr 62 [(1, .pointer (some ⟨b1, 0, none⟩)), (3, .string x5), (4, .int .i64 x6)] a ∧ Inv w0 Z w (star (pt b1 (.cells ((([.slice A_a0_Map a0_Map.length c_a0_Map, .slice A_a0_Gone a0_Gone.length c_a0_Gone] : List Value))).toArray 30 (0, 0))) A)) ?_ FU a w ⟨y3, 0, h1, ha.keep [1, 3, 4] (by kernel_rfl), hI⟩)
    clear h1 hI
    rintro k a w ⟨x5, x6, h1, ha, hI⟩
    rcases k with _ | k
    · cases h1
    simp only [ref15_Bytes.l0] at h1
    refine CodT.of ?_ ha
    refine CodT.seq ?_
    refine CodT.seq ?_
    refine CodT.regionL [0, 1, 2, 3, 4] (by kernel_rfl) ?_
    refine OpsT.pures (r := [2, 3, 4]) [0, 1] [1, 3, 4, 11, 12] (S' := [(1, .pointer (some ⟨b1, 0, none⟩)), (3, .string x5), (4, .int .i64 x6), (11, .int .i64 x6), (12, .pointer (some ⟨b1, 0, none⟩))]) (by kernel_rfl) ?_
    refine OpsT.cons (Does.yi (Yl.load (d := 13) (T := 28) (v := .slice A_a0_Map a0_Map.length c_a0_Map) (by kernel_rfl) (ldB ty28 (l := (([.slice A_a0_Map a0_Map.length c_a0_Map, .slice A_a0_Gone a0_Gone.length c_a0_Gone] : List Value))) (o := 0) (v := .slice A_a0_Map a0_Map.length c_a0_Map) (ent_refl _) (by kernel_rfl))) hI ?_)
    refine OpsT.pures (r := []) [3, 4] [1, 3, 4, 15] (S' := [(1, .pointer (some ⟨b1, 0, none⟩)), (3, .string x5), (4, .int .i64 x6), (15, .bool (decide (x6 < (a0_Map.length : Int))))]) (by kernel_rfl) ?_
    refine OpsT.done ?_
    refine Qn.then ?_
    by_cases hb7 : (decide (x6 < (a0_Map.length : Int))) = true
    · rw [if_pos hb7] at h1
      refine CodT.yes' (b := decide (x6 < (a0_Map.length : Int))) (by kernel_rfl) hb7 ?_
      refine CodT.skip ?_
      refine Qn.then ?_
      refine CodT.seq ?_
      refine CodT.block ?_
      refine CodT.seq ?_
      refine CodT.regionL [0, 1, 2, 3, 4, 5, 6] (by kernel_rfl) ?_
      refine OpsT.pures (r := [1, 2, 3, 4, 5, 6]) [0] [1, 3, 4, 18] (S' := [(1, .pointer (some ⟨b1, 0, none⟩)), (3, .string x5), (4, .int .i64 x6), (18, .pointer (some ⟨b1, 0, none⟩))]) (by kernel_rfl) ?_
      refine OpsT.cons (Does.yi (Yl.load (d := 19) (T := 28) (v := .slice A_a0_Map a0_Map.length c_a0_Map) (by kernel_rfl) (ldB ty28 (l := (([.slice A_a0_Map a0_Map.length c_a0_Map, .slice A_a0_Gone a0_Gone.length c_a0_Gone] : List Value))) (o := 0) (v := .slice A_a0_Map a0_Map.length c_a0_Map) (ent_refl _) (by kernel_rfl))) hI ?_)
      refine OpsT.pures (r := [3, 4, 5, 6]) [2] [1, 3, 4, 19, 20] (S' := [(1, .pointer (some ⟨b1, 0, none⟩)), (3, .string x5), (4, .int .i64 x6), (19, .slice A_a0_Map a0_Map.length c_a0_Map), (20, .int .i64 x6)]) (by kernel_rfl) ?_
      obtain ⟨hg8, h1⟩ := guardS h1
      obtain ⟨g9, o13, hA10, hr11, hl12⟩ := RdS.get hr_a0_Map hg8.1 hg8.2
      refine OpsT.cons (Does.yi (Yl.indexSlice (d := 21) (T := 28) (cc := c_a0_Map) (k := .i64) (j := x6) (g := g9) (o := o13) (by kernel_rfl) Go.Proofs.Try.underlying28 ty69 hA10 hg8.1 hg8.2) hI ?_)
      refine OpsT.cons (Does.yi (Yl.load (d := 22) (T := 69) (v := .agg (c_Ref15Entry (gt a0_Map x6)).toArray) (by kernel_rfl) (ldRN ty69 (cs := c_Ref15Entry (gt a0_Map x6)) 0 (fun w hC => hr11 w0 w _ hC) hl12 (whole _ _ hl12))) hI ?_)
      refine OpsT.cons (Does.allocL (d := 5) (T := 69) (c_Ref15Entry (Ref15Entry.mk 0 0 0 0)) (by kernel_rfl) ty69 hI (by kernel_rfl) ?_)
      intro b14 w hI
      refine OpsT.cons (Does.storeLit (T := 69) (b := b14) (o := 0) (v := .agg (c_Ref15Entry (gt a0_Map x6)).toArray) (l := c_Ref15Entry (Ref15Entry.mk 0 0 0 0)) (vs := c_Ref15Entry (gt a0_Map x6)) (L' := c_Ref15Entry (gt a0_Map x6)) (by kernel_rfl) ty69 hI (by kernel_rfl) (by kernel_rfl) (by kernel_rfl) (by kernel_rfl) (by kernel_rfl) ?_)
      intro w hI
      refine OpsT.done ?_
      refine Qn.then ?_
      refine CodT.drawI (n := 18) [] (by kernel_rfl) (by kernel_rfl) hI ?_
      intro w hI
      refine GmT.p' 0 23 (.string x5) (by kernel_rfl) (by kernel_rfl) ?_
      refine GmT.p' 1 24 (.pointer (some ⟨b14, 0, none⟩)) (by kernel_rfl) (by kernel_rfl) ?_
      refine GmT.p' 5 28 (.pointer (some ⟨b14, 1, none⟩)) (by kernel_rfl) (by kernel_rfl) ?_
      refine GmT.p' 9 32 (.pointer (some ⟨b14, 2, none⟩)) (by kernel_rfl) (by kernel_rfl) ?_
      refine GmT.p' 13 36 (.pointer (some ⟨b14, 3, none⟩)) (by kernel_rfl) (by kernel_rfl) ?_
      refine GmT.r (i := 2) 2 (by kernel_rfl) (by kernel_rfl) (Yl.load (d := 25) (T := 3) (v := .int .i64 ((gt a0_Map x6).Logic)) (by kernel_rfl) (ldB ty3 (l := c_Ref15Entry (gt a0_Map x6)) (o := 0) (v := .int .i64 ((gt a0_Map x6).Logic)) (ent_refl _) (by kernel_rfl))) hI ?_
      refine GmT.r (i := 6) 2 (by kernel_rfl) (by kernel_rfl) (Yl.load (d := 29) (T := 3) (v := .int .i64 ((gt a0_Map x6).Owner)) (by kernel_rfl) (ldB ty3 (l := c_Ref15Entry (gt a0_Map x6)) (o := 1) (v := .int .i64 ((gt a0_Map x6).Owner)) (ent_refl _) (by kernel_rfl))) hI ?_
      refine GmT.r (i := 10) 2 (by kernel_rfl) (by kernel_rfl) (Yl.load (d := 33) (T := 3) (v := .int .i64 ((gt a0_Map x6).Block)) (by kernel_rfl) (ldB ty3 (l := c_Ref15Entry (gt a0_Map x6)) (o := 2) (v := .int .i64 ((gt a0_Map x6).Block)) (ent_refl _) (by kernel_rfl))) hI ?_
      refine GmT.r (i := 14) 2 (by kernel_rfl) (by kernel_rfl) (Yl.load (d := 37) (T := 3) (v := .int .i64 ((gt a0_Map x6).At)) (by kernel_rfl) (ldB ty3 (l := c_Ref15Entry (gt a0_Map x6)) (o := 3) (v := .int .i64 ((gt a0_Map x6).At)) (ent_refl _) (by kernel_rfl))) hI ?_
      obtain ⟨y16, hc15, h1⟩ := bindS h1
      try dsimp only at h1
      refine GmT.o (i := 3) (by kernel_rfl) (Does.call (d := some 26) (n := 51) (vs := [.int .i64 ((gt a0_Map x6).Logic)]) (by kernel_rfl) en51 (c51 w0 w _ _ hI ((gt a0_Map x6).Logic) _ hc15) ?_)
      rintro e w ⟨rfl, hI⟩
      refine ⟨_, rfl, ?_⟩
      refine ⟨fun _ _ => hI, ?_⟩
      obtain ⟨hg17, h1⟩ := guardS h1
      refine GmT.r (i := 4) 2 (by kernel_rfl) (by kernel_rfl) (Yl.cat (d := 27) (T := 9) (x := x5) (y := y16) (by kernel_rfl) hg17) hI ?_
      obtain ⟨y19, hc18, h1⟩ := bindS h1
      try dsimp only at h1
      refine GmT.o (i := 7) (by kernel_rfl) (Does.call (d := some 30) (n := 51) (vs := [.int .i64 ((gt a0_Map x6).Owner)]) (by kernel_rfl) en51 (c51 w0 w _ _ hI ((gt a0_Map x6).Owner) _ hc18) ?_)
      rintro e w ⟨rfl, hI⟩
      refine ⟨_, rfl, ?_⟩
      refine ⟨fun _ _ => hI, ?_⟩
      obtain ⟨hg20, h1⟩ := guardS h1
      refine GmT.r (i := 8) 2 (by kernel_rfl) (by kernel_rfl) (Yl.cat (d := 31) (T := 9) (x := x5 ++ y16) (y := y19) (by kernel_rfl) hg20) hI ?_
      obtain ⟨y22, hc21, h1⟩ := bindS h1
      try dsimp only at h1
      refine GmT.o (i := 11) (by kernel_rfl) (Does.call (d := some 34) (n := 51) (vs := [.int .i64 ((gt a0_Map x6).Block)]) (by kernel_rfl) en51 (c51 w0 w _ _ hI ((gt a0_Map x6).Block) _ hc21) ?_)
      rintro e w ⟨rfl, hI⟩
      refine ⟨_, rfl, ?_⟩
      refine ⟨fun _ _ => hI, ?_⟩
      obtain ⟨hg23, h1⟩ := guardS h1
      refine GmT.r (i := 12) 2 (by kernel_rfl) (by kernel_rfl) (Yl.cat (d := 35) (T := 9) (x := (x5 ++ y16) ++ y19) (y := y22) (by kernel_rfl) hg23) hI ?_
      obtain ⟨y25, hc24, h1⟩ := bindS h1
      try dsimp only at h1
      refine GmT.o (i := 15) (by kernel_rfl) (Does.call (d := some 38) (n := 51) (vs := [.int .i64 ((gt a0_Map x6).At)]) (by kernel_rfl) en51 (c51 w0 w _ _ hI ((gt a0_Map x6).At) _ hc24) ?_)
      rintro e w ⟨rfl, hI⟩
      refine ⟨_, rfl, ?_⟩
      refine ⟨fun _ _ => hI, ?_⟩
      obtain ⟨hg26, h1⟩ := guardS h1
      refine GmT.r (i := 16) 2 (by kernel_rfl) (by kernel_rfl) (Yl.cat (d := 39) (T := 9) (x := ((x5 ++ y16) ++ y19) ++ y22) (y := y25) (by kernel_rfl) hg26) hI ?_
      refine GmT.p' 17 3 (.string ((((x5 ++ y16) ++ y19) ++ y22) ++ y25)) (by kernel_rfl) (by kernel_rfl) ?_
      refine GmT.done (by kernel_rfl) ?_
      refine Qn.block_normal ?_
      refine Qn.then ?_
      refine CodT.regionL [0, 1, 2] (by kernel_rfl) ?_
      refine OpsT.pures (r := []) [0, 1, 2] [1, 3, 4] (S' := [(1, .pointer (some ⟨b1, 0, none⟩)), (3, .string ((((x5 ++ y16) ++ y19) ++ y22) ++ y25)), (4, .int .i64 (wi64 (x6 + 1)))]) (by kernel_rfl) ?_
      refine OpsT.done ?_
      have hI := hI.drop
      exact Qn.thenJ fun a ha => ⟨k, Nat.lt_succ_self k, (((x5 ++ y16) ++ y19) ++ y22) ++ y25, wi64 (x6 + 1), h1, ha.keep [1, 3, 4] (by kernel_rfl), hI⟩
    · rw [if_neg hb7] at h1
      refine CodT.no' (b := decide (x6 < (a0_Map.length : Int))) (by kernel_rfl) (by simpa using hb7) ?_
      refine CodT.exit ?_
      refine Qn.exit_then ?_
      refine Qn.exit_then ?_
      refine Qn.block ?_
      have e := someS h1
      subst e
      exact Qn.thenJ fun a ha => ⟨x5, rfl, ha.keep [1, 3] (by kernel_rfl), hI⟩
  ·
    rintro a w ⟨x4, rfl, ha, hI⟩
    try dsimp only at h0
    refine Qn.of ?_ ha
    refine Qn.then ?_
    refine CodT.seq ?_
    refine CodT.regionL [0, 1, 2, 3, 4, 5, 6] (by kernel_rfl) ?_
    refine OpsT.pures (r := [2, 3, 4, 5, 6]) [0, 1] [1, 40, 41] (S' := [(1, .pointer (some ⟨b1, 0, none⟩)), (40, .string x4), (41, .pointer (some ⟨b1, 1, none⟩))]) (by kernel_rfl) ?_
    refine OpsT.cons (Does.yi (Yl.load (d := 42) (T := 23) (v := .slice A_a0_Gone a0_Gone.length c_a0_Gone) (by kernel_rfl) (ldB ty23 (l := (([.slice A_a0_Map a0_Map.length c_a0_Map, .slice A_a0_Gone a0_Gone.length c_a0_Gone] : List Value))) (o := 1) (v := .slice A_a0_Gone a0_Gone.length c_a0_Gone) (ent_refl _) (by kernel_rfl))) hI ?_)
    refine OpsT.pures (r := [4, 5, 6]) [3] [1, 40, 43] (S' := [(1, .pointer (some ⟨b1, 0, none⟩)), (40, .string x4), (43, .int .i64 (a0_Gone.length : Int))]) (by kernel_rfl) ?_
    obtain ⟨y28, hc27, h0⟩ := bindS h0
    try dsimp only at h0
    refine OpsT.cons (Does.call (d := some 44) (n := 51) (vs := [.int .i64 (a0_Gone.length : Int)]) (by kernel_rfl) en51 (c51 w0 w _ _ hI (a0_Gone.length : Int) _ hc27) ?_)
    rintro e w ⟨rfl, hI⟩
    refine ⟨_, rfl, ?_⟩
    obtain ⟨hg29, h0⟩ := guardS h0
    refine OpsT.cons (Does.yi (Yl.cat (d := 45) (T := 9) (x := x4) (y := y28) (by kernel_rfl) hg29) hI ?_)
    refine OpsT.pures (r := []) [6] [1, 3] (S' := [(1, .pointer (some ⟨b1, 0, none⟩)), (3, .string (x4 ++ y28))]) (by kernel_rfl) ?_
    refine OpsT.done ?_
    refine Qn.then ?_
    refine CodT.seq ?_
    refine CodT.seq ?_
    refine CodT.regionL [0] (by kernel_rfl) ?_
    refine OpsT.pures (r := []) [0] [1, 3, 6] (S' := [(1, .pointer (some ⟨b1, 0, none⟩)), (3, .string (x4 ++ y28)), (6, .int .i64 0)]) (by kernel_rfl) ?_
    refine OpsT.done ?_
    refine Qn.then ?_
    obtain ⟨r1, h1, h0⟩ := bindS h0
    refine CodT.meet1 (fun a w => ∃ (x30 : ByteArray), x30 = r1 ∧ Fr 62 [(3, .string x30)] a ∧ Inv w0 Z w A) ?_ ?_
    ·
      refine CodT.block ?_
      refine (fun a ha => wp_loopN (fun k a w => ∃ (x31 : ByteArray) (x32 : Int), ref15_Bytes.l1 a0_Gone k x31 x32 = some r1 ∧ Fr 62 [(1, .pointer (some ⟨b1, 0, none⟩)), (3, .string x31), (6, .int .i64 x32)] a ∧ Inv w0 Z w (star (pt b1 (.cells ((([.slice A_a0_Map a0_Map.length c_a0_Map, .slice A_a0_Gone a0_Gone.length c_a0_Gone] : List Value))).toArray 30 (0, 0))) A)) ?_ FU a w ⟨x4 ++ y28, 0, h1, ha.keep [1, 3, 6] (by kernel_rfl), hI⟩)
      clear h1 hI
      rintro k a w ⟨x31, x32, h1, ha, hI⟩
      rcases k with _ | k
      · cases h1
      simp only [ref15_Bytes.l1] at h1
      refine CodT.of ?_ ha
      refine CodT.seq ?_
      refine CodT.seq ?_
      refine CodT.regionL [0, 1, 2, 3, 4] (by kernel_rfl) ?_
      refine OpsT.pures (r := [2, 3, 4]) [0, 1] [1, 3, 6, 46, 47] (S' := [(1, .pointer (some ⟨b1, 0, none⟩)), (3, .string x31), (6, .int .i64 x32), (46, .int .i64 x32), (47, .pointer (some ⟨b1, 1, none⟩))]) (by kernel_rfl) ?_
      refine OpsT.cons (Does.yi (Yl.load (d := 48) (T := 23) (v := .slice A_a0_Gone a0_Gone.length c_a0_Gone) (by kernel_rfl) (ldB ty23 (l := (([.slice A_a0_Map a0_Map.length c_a0_Map, .slice A_a0_Gone a0_Gone.length c_a0_Gone] : List Value))) (o := 1) (v := .slice A_a0_Gone a0_Gone.length c_a0_Gone) (ent_refl _) (by kernel_rfl))) hI ?_)
      refine OpsT.pures (r := []) [3, 4] [1, 3, 6, 50] (S' := [(1, .pointer (some ⟨b1, 0, none⟩)), (3, .string x31), (6, .int .i64 x32), (50, .bool (decide (x32 < (a0_Gone.length : Int))))]) (by kernel_rfl) ?_
      refine OpsT.done ?_
      refine Qn.then ?_
      by_cases hb33 : (decide (x32 < (a0_Gone.length : Int))) = true
      · rw [if_pos hb33] at h1
        refine CodT.yes' (b := decide (x32 < (a0_Gone.length : Int))) (by kernel_rfl) hb33 ?_
        refine CodT.skip ?_
        refine Qn.then ?_
        refine CodT.seq ?_
        refine CodT.block ?_
        refine CodT.regionL [0, 1, 2, 3, 4, 5, 6, 7, 8] (by kernel_rfl) ?_
        refine OpsT.pures (r := [2, 3, 4, 5, 6, 7, 8]) [0, 1] [1, 6, 53, 54] (S' := [(1, .pointer (some ⟨b1, 0, none⟩)), (6, .int .i64 x32), (53, .string x31), (54, .pointer (some ⟨b1, 1, none⟩))]) (by kernel_rfl) ?_
        refine OpsT.cons (Does.yi (Yl.load (d := 55) (T := 23) (v := .slice A_a0_Gone a0_Gone.length c_a0_Gone) (by kernel_rfl) (ldB ty23 (l := (([.slice A_a0_Map a0_Map.length c_a0_Map, .slice A_a0_Gone a0_Gone.length c_a0_Gone] : List Value))) (o := 1) (v := .slice A_a0_Gone a0_Gone.length c_a0_Gone) (ent_refl _) (by kernel_rfl))) hI ?_)
        refine OpsT.pures (r := [4, 5, 6, 7, 8]) [3] [1, 6, 53, 55, 56] (S' := [(1, .pointer (some ⟨b1, 0, none⟩)), (6, .int .i64 x32), (53, .string x31), (55, .slice A_a0_Gone a0_Gone.length c_a0_Gone), (56, .int .i64 x32)]) (by kernel_rfl) ?_
        obtain ⟨hg34, h1⟩ := guardS h1
        obtain ⟨g35, o39, hA36, hr37, hl38⟩ := RdS.get hr_a0_Gone hg34.1 hg34.2
        refine OpsT.cons (Does.yi (Yl.indexSlice (d := 57) (T := 23) (cc := c_a0_Gone) (k := .i64) (j := x32) (g := g35) (o := o39) (by kernel_rfl) Go.Proofs.Try.underlying23 ty3 hA36 hg34.1 hg34.2) hI ?_)
        refine OpsT.cons (Does.yi (Yl.load (d := 58) (T := 3) (v := .int .i64 (gt a0_Gone x32)) (by kernel_rfl) (ldR ty3 (v := .int .i64 (gt a0_Gone x32)) 0 (fun w hC => hr37 w0 w _ hC) (by kernel_rfl))) hI ?_)
        obtain ⟨y41, hc40, h1⟩ := bindS h1
        try dsimp only at h1
        refine OpsT.cons (Does.call (d := some 59) (n := 51) (vs := [.int .i64 (gt a0_Gone x32)]) (by kernel_rfl) en51 (c51 w0 w _ _ hI (gt a0_Gone x32) _ hc40) ?_)
        rintro e w ⟨rfl, hI⟩
        refine ⟨_, rfl, ?_⟩
        obtain ⟨hg42, h1⟩ := guardS h1
        refine OpsT.cons (Does.yi (Yl.cat (d := 60) (T := 9) (x := x31) (y := y41) (by kernel_rfl) hg42) hI ?_)
        refine OpsT.pures (r := []) [8] [1, 3, 6] (S' := [(1, .pointer (some ⟨b1, 0, none⟩)), (3, .string (x31 ++ y41)), (6, .int .i64 x32)]) (by kernel_rfl) ?_
        refine OpsT.done ?_
        refine Qn.block_normal ?_
        refine Qn.then ?_
        refine CodT.regionL [0, 1, 2] (by kernel_rfl) ?_
        refine OpsT.pures (r := []) [0, 1, 2] [1, 3, 6] (S' := [(1, .pointer (some ⟨b1, 0, none⟩)), (3, .string (x31 ++ y41)), (6, .int .i64 (wi64 (x32 + 1)))]) (by kernel_rfl) ?_
        refine OpsT.done ?_
        exact Qn.thenJ fun a ha => ⟨k, Nat.lt_succ_self k, x31 ++ y41, wi64 (x32 + 1), h1, ha.keep [1, 3, 6] (by kernel_rfl), hI⟩
      · rw [if_neg hb33] at h1
        refine CodT.no' (b := decide (x32 < (a0_Gone.length : Int))) (by kernel_rfl) (by simpa using hb33) ?_
        refine CodT.exit ?_
        refine Qn.exit_then ?_
        refine Qn.exit_then ?_
        refine Qn.block ?_
        have hI := hI.drop
        have e := someS h1
        subst e
        exact Qn.thenJ fun a ha => ⟨x31, rfl, ha.keep [3] (by kernel_rfl), hI⟩
    ·
      rintro a w ⟨x30, rfl, ha, hI⟩
      try dsimp only at h0
      refine Qn.of ?_ ha
      refine Qn.then ?_
      refine CodT.seq ?_
      refine CodT.regionL [0, 1] (by kernel_rfl) ?_
      refine OpsT.pures (r := []) [0, 1] [2] (S' := [(2, .string x30)]) (by kernel_rfl) ?_
      refine OpsT.done ?_
      refine Qn.then ?_
      refine CodT.ret ?_
      have e := someS h0
      subst e
      refine Qn.keep [2] (S' := [(2, .string x30)]) (by kernel_rfl) ?_
      exact post_ret (v := .string x30) (fun a ha => RunRes.run (vs := [.string x30]) (.tmp (t := 2) (by kernel_rfl) .nil) ha (by kernel_rfl)) ⟨rfl, hI⟩
set_option maxRecDepth 100000 in
set_option maxHeartbeats 4000000 in
/-- cenotaph/cenotaphref15.Put -/
theorem c18 (w0 w : World) (Z : Hp) (A : HP) (hI : Inv w0 Z w A) (A_a0_Map : Option Addr) (c_a0_Map : Nat) (a0_Map : (List Ref15Entry)) (hr_a0_Map : RdS Z c_Ref15Entry 4 A_a0_Map c_a0_Map a0_Map) (A_a0_Gone : Option Addr) (c_a0_Gone : Nat) (a0_Gone : (List Int)) (hr_a0_Gone : RdS Z (cI .i64) 1 A_a0_Gone c_a0_Gone a0_Gone) (a1 : Int) (r : (List ByteArray)) (h0 : ref15_Put a0_Map a0_Gone a1 = some r) :
    Calls prog 18 #[.agg ((([.slice A_a0_Map a0_Map.length c_a0_Map, .slice A_a0_Gone a0_Gone.length c_a0_Gone] : List Value))).toArray, .int .i64 a1] w (fun e w' => ∃ (A1 : Option Addr) (c1 : Nat), e = .returned (.slice A1 r.length c1) ∧ Inv w0 Z w' (star (ownS 9 cS 1 A1 c1 r) A)) := by
  have e4 := calls_intro (R := (fun e w' => ∃ (A1 : Option Addr) (c1 : Nat), e = .returned (.slice A1 r.length c1) ∧ Inv w0 Z w' (star (ownS 9 cS 1 A1 c1 r) A))) (w := w) (args := [.agg ((([.slice A_a0_Map a0_Map.length c_a0_Map, .slice A_a0_Gone a0_Gone.length c_a0_Gone] : List Value))).toArray, .int .i64 a1]) (fn := Go.Proofs.Try.f18) 59 Go.Proofs.Try.func18 (by rfl) Go.Proofs.Try.ntmps18 (by kernel_rfl)
  refine e4 ?_
  clear e4
  unfold ref15_Put at h0
  refine CodT.seq ?_
  refine CodT.regionL [0, 1] (by kernel_rfl) ?_
  refine OpsT.cons (Does.boxL (d := 2) (T := 30) (v := .agg ((([.slice A_a0_Map a0_Map.length c_a0_Map, .slice A_a0_Gone a0_Gone.length c_a0_Gone] : List Value))).toArray) ((([.slice A_a0_Map a0_Map.length c_a0_Map, .slice A_a0_Gone a0_Gone.length c_a0_Gone] : List Value))) (by kernel_rfl) hI (by kernel_rfl) ?_)
  intro b1 w hI
  refine OpsT.pures (r := []) [1] [1, 2] (S' := [(1, .int .i64 a1), (2, .pointer (some ⟨b1, 0, none⟩))]) (by kernel_rfl) ?_
  refine OpsT.done ?_
  refine Qn.then ?_
  refine CodT.seq ?_
  obtain ⟨r1, h1, h0⟩ := bindS h0
  refine CodT.meet (fun a w => ∃ (x2 : Bool), x2 = r1 ∧ Fr 59 [(1, .int .i64 a1), (2, .pointer (some ⟨b1, 0, none⟩)), (20, .bool x2)] a ∧ Inv w0 Z w (star (pt b1 (.cells ((([.slice A_a0_Map a0_Map.length c_a0_Map, .slice A_a0_Gone a0_Gone.length c_a0_Gone] : List Value))).toArray 30 (0, 0))) A)) ?_ ?_
  ·
    refine CodT.regionL [0, 1, 2, 3, 4, 5, 6, 7, 8, 9, 10] (by kernel_rfl) ?_
    refine OpsT.cons (Does.yi (Yl.load (d := 10) (T := 30) (v := .agg ((([.slice A_a0_Map a0_Map.length c_a0_Map, .slice A_a0_Gone a0_Gone.length c_a0_Gone] : List Value))).toArray) (by kernel_rfl) (ldBN ty30 (l := (([.slice A_a0_Map a0_Map.length c_a0_Map, .slice A_a0_Gone a0_Gone.length c_a0_Gone] : List Value))) (o := 0) (cs := (([.slice A_a0_Map a0_Map.length c_a0_Map, .slice A_a0_Gone a0_Gone.length c_a0_Gone] : List Value))) (ent_refl _) (by kernel_rfl) (whole _ _ (by kernel_rfl)))) hI ?_)
    obtain ⟨y4, hc3, h1⟩ := bindS h1
    try dsimp only at h1
    refine OpsT.cons (Does.call (d := some 11) (n := 11) (vs := [.agg ((([.slice A_a0_Map a0_Map.length c_a0_Map, .slice A_a0_Gone a0_Gone.length c_a0_Gone] : List Value))).toArray]) (by kernel_rfl) en11 (c11 w0 w _ _ hI A_a0_Map c_a0_Map a0_Map hr_a0_Map A_a0_Gone c_a0_Gone a0_Gone hr_a0_Gone _ hc3) ?_)
    rintro e w ⟨rfl, hI⟩
    refine ⟨_, rfl, ?_⟩
    refine OpsT.pures (r := [4, 5, 6, 7, 8, 9, 10]) [2, 3] [1, 2, 13] (S' := [(1, .int .i64 a1), (2, .pointer (some ⟨b1, 0, none⟩)), (13, .bool (!y4))]) (by kernel_rfl) ?_
    by_cases hb5 : (!y4) = true
    · rw [if_pos hb5] at h1
      refine OpsT.keep [1, 2, 13] (S' := [(1, .int .i64 a1), (2, .pointer (some ⟨b1, 0, none⟩)), (13, .bool true)]) (by simp only [hb5]; kernel_rfl) ?_
      refine OpsT.pures (r := []) [4, 5, 6, 7, 8, 9, 10] [1, 2, 20] (S' := [(1, .int .i64 a1), (2, .pointer (some ⟨b1, 0, none⟩)), (20, .bool true)]) (by kernel_rfl) ?_
      refine OpsT.done ?_
      have e := someS h1
      subst e
      exact Qn.thenJ fun a ha => ⟨true, rfl, ha.keep [1, 2, 20] (by kernel_rfl), hI⟩
    · rw [if_neg hb5] at h1
      have hb5 : (!y4) = false := by simpa using hb5
      refine OpsT.keep [1, 2, 13] (S' := [(1, .int .i64 a1), (2, .pointer (some ⟨b1, 0, none⟩)), (13, .bool false)]) (by simp only [hb5]; kernel_rfl) ?_
      refine OpsT.pures (r := [8, 9, 10]) [4, 5, 6, 7] [1, 2, 17] (S' := [(1, .int .i64 a1), (2, .pointer (some ⟨b1, 0, none⟩)), (17, .bool (decide (a1 < 8)))]) (by kernel_rfl) ?_
      by_cases hb6 : (decide (a1 < 8)) = true
      · rw [if_pos hb6] at h1
        refine OpsT.keep [1, 2, 17] (S' := [(1, .int .i64 a1), (2, .pointer (some ⟨b1, 0, none⟩)), (17, .bool true)]) (by simp only [hb6]; kernel_rfl) ?_
        refine OpsT.pures (r := []) [8, 9, 10] [1, 2, 20] (S' := [(1, .int .i64 a1), (2, .pointer (some ⟨b1, 0, none⟩)), (20, .bool true)]) (by kernel_rfl) ?_
        refine OpsT.done ?_
        have e := someS h1
        subst e
        exact Qn.thenJ fun a ha => ⟨true, rfl, ha.keep [1, 2, 20] (by kernel_rfl), hI⟩
      · rw [if_neg hb6] at h1
        have hb6 : (decide (a1 < 8)) = false := by simpa using hb6
        refine OpsT.keep [1, 2, 17] (S' := [(1, .int .i64 a1), (2, .pointer (some ⟨b1, 0, none⟩)), (17, .bool false)]) (by simp only [hb6]; kernel_rfl) ?_
        refine OpsT.pures (r := []) [8, 9, 10] [1, 2, 20] (S' := [(1, .int .i64 a1), (2, .pointer (some ⟨b1, 0, none⟩)), (20, .bool (decide (a1 > 224)))]) (by kernel_rfl) ?_
        refine OpsT.done ?_
        have e := someS h1
        subst e
        exact Qn.thenJ fun a ha => ⟨decide (a1 > 224), rfl, ha.keep [1, 2, 20] (by kernel_rfl), hI⟩
  ·
    rintro a w ⟨x2, rfl, ha, hI⟩
    try dsimp only at h0
    refine CodT.of ?_ ha
    by_cases hb7 : x2 = true
    · rw [if_pos hb7] at h0
      refine CodT.yes' (b := x2) (by kernel_rfl) hb7 ?_
      refine CodT.seq ?_
      refine CodT.regionL [0] (by kernel_rfl) ?_
      refine OpsT.pures (r := []) [0] [4] (S' := [(4, .slice none 0 0)]) (by kernel_rfl) ?_
      refine OpsT.done ?_
      refine Qn.then ?_
      refine CodT.ret ?_
      refine Qn.ret_then ?_
      have hI := ownS_nil (α := ByteArray) hI 9 cS 1
      have hI := hI.mono (pick2 _ _ _)
      have hI := hI.drop
      have e := someS h0
      subst e
      refine Qn.keep [4] (S' := [(4, .slice none 0 0)]) (by kernel_rfl) ?_
      exact post_ret (v := .slice none 0 0) (fun a ha => RunRes.run (vs := [.slice none 0 0]) (.tmp (t := 4) (by kernel_rfl) .nil) ha (by kernel_rfl)) ⟨none, 0, rfl, hI⟩
    · rw [if_neg hb7] at h0
      refine CodT.no' (b := x2) (by kernel_rfl) (by simpa using hb7) ?_
      refine CodT.skip ?_
      refine Qn.then ?_
      refine CodT.seq ?_
      refine CodT.regionL [0, 1, 2] (by kernel_rfl) ?_
      refine OpsT.cons (Does.yi (Yl.load (d := 21) (T := 30) (v := .agg ((([.slice A_a0_Map a0_Map.length c_a0_Map, .slice A_a0_Gone a0_Gone.length c_a0_Gone] : List Value))).toArray) (by kernel_rfl) (ldBN ty30 (l := (([.slice A_a0_Map a0_Map.length c_a0_Map, .slice A_a0_Gone a0_Gone.length c_a0_Gone] : List Value))) (o := 0) (cs := (([.slice A_a0_Map a0_Map.length c_a0_Map, .slice A_a0_Gone a0_Gone.length c_a0_Gone] : List Value))) (ent_refl _) (by kernel_rfl) (whole _ _ (by kernel_rfl)))) hI ?_)
      obtain ⟨y9, hc8, h0⟩ := bindS h0
      try dsimp only at h0
      refine OpsT.cons (Does.call (d := some 22) (n := 50) (vs := [.agg ((([.slice A_a0_Map a0_Map.length c_a0_Map, .slice A_a0_Gone a0_Gone.length c_a0_Gone] : List Value))).toArray]) (by kernel_rfl) en50 (c50 w0 w _ _ hI A_a0_Map c_a0_Map a0_Map hr_a0_Map A_a0_Gone c_a0_Gone a0_Gone hr_a0_Gone _ hc8) ?_)
      rintro e w ⟨rfl, hI⟩
      refine ⟨_, rfl, ?_⟩
      refine OpsT.pures (r := []) [2] [1, 5] (S' := [(1, .int .i64 a1), (5, .string y9)]) (by kernel_rfl) ?_
      refine OpsT.done ?_
      refine Qn.then ?_
      refine CodT.seq ?_
      refine CodT.regionL [0, 1, 2] (by kernel_rfl) ?_
      refine OpsT.pures (r := []) [0, 1, 2] [5, 6] (S' := [(5, .string y9), (6, .int .i64 (wi64 (a1 - 6)))]) (by kernel_rfl) ?_
      refine OpsT.done ?_
      refine Qn.then ?_
      refine CodT.seq ?_
      refine CodT.regionL [0, 1, 2, 3, 4, 5, 6, 7] (by kernel_rfl) ?_
      refine OpsT.pures (r := [6, 7]) [0, 1, 2, 3, 4, 5] [5, 6, 29, 30] (S' := [(5, .string y9), (6, .int .i64 (wi64 (a1 - 6))), (29, .int .i64 (wi64 ((wi64 ((y9.size : Int) + (wi64 (a1 - 6)))) - 1))), (30, .int .i64 (wi64 (a1 - 6)))]) (by kernel_rfl) ?_
      obtain ⟨hg10, h0⟩ := guardS h0
      refine OpsT.cons (Does.yi (Yl.quo (d := 31) (T := 3) (k := .i64) (x := wi64 ((wi64 ((y9.size : Int) + (wi64 (a1 - 6)))) - 1)) (y := wi64 (a1 - 6)) (by kernel_rfl) hg10) hI ?_)
      refine OpsT.pures (r := []) [7] [5, 6, 7] (S' := [(5, .string y9), (6, .int .i64 (wi64 (a1 - 6))), (7, .int .i64 (wi64 ((wi64 ((wi64 ((y9.size : Int) + (wi64 (a1 - 6)))) - 1)).tdiv (wi64 (a1 - 6)))))]) (by kernel_rfl) ?_
      refine OpsT.done ?_
      refine Qn.then ?_
      refine CodT.seq ?_
      refine CodT.regionL [0] (by kernel_rfl) ?_
      refine OpsT.pures (r := []) [0] [5, 6, 7, 8] (S' := [(5, .string y9), (6, .int .i64 (wi64 (a1 - 6))), (7, .int .i64 (wi64 ((wi64 ((wi64 ((y9.size : Int) + (wi64 (a1 - 6)))) - 1)).tdiv (wi64 (a1 - 6))))), (8, .slice none 0 0)]) (by kernel_rfl) ?_
      refine OpsT.done ?_
      refine Qn.then ?_
      refine CodT.seq ?_
      refine CodT.seq ?_
      refine CodT.regionL [0] (by kernel_rfl) ?_
      refine OpsT.pures (r := []) [0] [5, 6, 7, 8, 9] (S' := [(5, .string y9), (6, .int .i64 (wi64 (a1 - 6))), (7, .int .i64 (wi64 ((wi64 ((wi64 ((y9.size : Int) + (wi64 (a1 - 6)))) - 1)).tdiv (wi64 (a1 - 6))))), (8, .slice none 0 0), (9, .int .i64 0)]) (by kernel_rfl) ?_
      refine OpsT.done ?_
      refine Qn.then ?_
      obtain ⟨r1, h1, h0⟩ := bindS h0
      refine CodT.meet1 (fun a w => ∃ (x11 : (List ByteArray)) (A12 : Option Addr) (cp13 : Nat), x11 = r1 ∧ Fr 59 [(8, .slice A12 x11.length cp13)] a ∧ Inv w0 Z w (star (ownS 9 cS 1 A12 cp13 x11) A)) ?_ ?_
      ·
        refine CodT.block ?_
        have hI := ownS_nil (α := ByteArray) hI 9 cS 1
        have hI := hI.mono (pick2 _ _ _)
        have hI := hI.drop
        refine (fun a ha => wp_loopN (fun k a w => ∃ (x14 : (List ByteArray)) (x17 : Int) (A15 : Option Addr) (cp16 : Nat), ref15_Put.l0 y9 a1 k x14 x17 = some r1 ∧ Fr 59 [(5, .string y9), (6, .int .i64 (wi64 (a1 - 6))), (7, .int .i64 (wi64 ((wi64 ((wi64 ((y9.size : Int) + (wi64 (a1 - 6)))) - 1)).tdiv (wi64 (a1 - 6))))), (8, .slice A15 x14.length cp16), (9, .int .i64 x17)] a ∧ Inv w0 Z w (star (ownS 9 cS 1 A15 cp16 x14) A)) ?_ FU a w ⟨([] : List ByteArray), 0, none, 0, h1, ha.keep [5, 6, 7, 8, 9] (by kernel_rfl), hI⟩)
        clear h1 hI
        rintro k a w ⟨x14, x17, A15, cp16, h1, ha, hI⟩
        rcases k with _ | k
        · cases h1
        simp only [ref15_Put.l0] at h1
        refine CodT.of ?_ ha
        refine CodT.seq ?_
        refine CodT.seq ?_
        refine CodT.regionL [0, 1, 2] (by kernel_rfl) ?_
        refine OpsT.pures (r := []) [0, 1, 2] [5, 6, 7, 8, 9, 34] (S' := [(5, .string y9), (6, .int .i64 (wi64 (a1 - 6))), (7, .int .i64 (wi64 ((wi64 ((wi64 ((y9.size : Int) + (wi64 (a1 - 6)))) - 1)).tdiv (wi64 (a1 - 6))))), (8, .slice A15 x14.length cp16), (9, .int .i64 x17), (34, .bool (decide (x17 < (wi64 ((wi64 ((wi64 ((y9.size : Int) + (wi64 (a1 - 6)))) - 1)).tdiv (wi64 (a1 - 6)))))))]) (by kernel_rfl) ?_
        refine OpsT.done ?_
        refine Qn.then ?_
        by_cases hb18 : (decide (x17 < (wi64 ((wi64 ((wi64 ((y9.size : Int) + (wi64 (a1 - 6)))) - 1)).tdiv (wi64 (a1 - 6)))))) = true
        · rw [if_pos hb18] at h1
          refine CodT.yes' (b := decide (x17 < (wi64 ((wi64 ((wi64 ((y9.size : Int) + (wi64 (a1 - 6)))) - 1)).tdiv (wi64 (a1 - 6)))))) (by kernel_rfl) hb18 ?_
          refine CodT.skip ?_
          refine Qn.then ?_
          refine CodT.seq ?_
          refine CodT.block ?_
          refine CodT.drawI (n := 22) [20] (by kernel_rfl) (by kernel_rfl) hI ?_
          intro w hI
          refine GmT.p' 0 37 (.slice A15 x14.length cp16) (by kernel_rfl) (by kernel_rfl) ?_
          refine GmT.p' 1 38 (.int .i64 x17) (by kernel_rfl) (by kernel_rfl) ?_
          refine GmT.p' 3 40 (.int .i64 (wi64 ((wi64 ((wi64 ((y9.size : Int) + (wi64 (a1 - 6)))) - 1)).tdiv (wi64 (a1 - 6))))) (by kernel_rfl) (by kernel_rfl) ?_
          refine GmT.p' 6 43 (.string y9) (by kernel_rfl) (by kernel_rfl) ?_
          refine GmT.p' 7 44 (.int .i64 x17) (by kernel_rfl) (by kernel_rfl) ?_
          refine GmT.p' 8 45 (.int .i64 (wi64 (a1 - 6))) (by kernel_rfl) (by kernel_rfl) ?_
          refine GmT.p' 9 46 (.int .i64 (wi64 (x17 * (wi64 (a1 - 6))))) (by kernel_rfl) (by kernel_rfl) ?_
          refine GmT.p' 10 47 (.int .i64 x17) (by kernel_rfl) (by kernel_rfl) ?_
          refine GmT.p' 11 48 (.int .i64 (wi64 (x17 + 1))) (by kernel_rfl) (by kernel_rfl) ?_
          refine GmT.p' 12 49 (.int .i64 (wi64 (a1 - 6))) (by kernel_rfl) (by kernel_rfl) ?_
          refine GmT.p' 13 50 (.int .i64 (wi64 ((wi64 (x17 + 1)) * (wi64 (a1 - 6))))) (by kernel_rfl) (by kernel_rfl) ?_
          refine GmT.p' 14 51 (.string y9) (by kernel_rfl) (by kernel_rfl) ?_
          refine GmT.p' 15 52 (.int .i64 (y9.size : Int)) (by kernel_rfl) (by kernel_rfl) ?_
          refine GmT.p' 16 53 (.int .i64 (if (y9.size : Int) < (wi64 ((wi64 (x17 + 1)) * (wi64 (a1 - 6)))) then (y9.size : Int) else wi64 ((wi64 (x17 + 1)) * (wi64 (a1 - 6))))) (by kernel_rfl) (by kernel_rfl) ?_
          obtain ⟨hg19, h1⟩ := guardS h1
          refine GmT.r (i := 17) 4 (by kernel_rfl) (by kernel_rfl) (Yl.sliceStr11 (d := 54) (T := 9) (s := y9) (lo := wi64 (x17 * (wi64 (a1 - 6)))) (hi := if (y9.size : Int) < (wi64 ((wi64 (x17 + 1)) * (wi64 (a1 - 6)))) then (y9.size : Int) else wi64 ((wi64 (x17 + 1)) * (wi64 (a1 - 6)))) (by kernel_rfl) Go.Proofs.Try.underlying9 hg19) hI ?_
          obtain ⟨y21, hc20, h1⟩ := bindS h1
          try dsimp only at h1
          refine GmT.o (i := 2) (by kernel_rfl) (Does.call (d := some 39) (n := 51) (vs := [.int .i64 x17]) (by kernel_rfl) en51 (c51 w0 w _ _ hI x17 _ hc20) ?_)
          rintro e w ⟨rfl, hI⟩
          refine ⟨_, rfl, ?_⟩
          refine ⟨fun _ _ => hI, ?_⟩
          obtain ⟨y23, hc22, h1⟩ := bindS h1
          try dsimp only at h1
          refine GmT.o (i := 4) (by kernel_rfl) (Does.call (d := some 41) (n := 51) (vs := [.int .i64 (wi64 ((wi64 ((wi64 ((y9.size : Int) + (wi64 (a1 - 6)))) - 1)).tdiv (wi64 (a1 - 6))))]) (by kernel_rfl) en51 (c51 w0 w _ _ hI (wi64 ((wi64 ((wi64 ((y9.size : Int) + (wi64 (a1 - 6)))) - 1)).tdiv (wi64 (a1 - 6)))) _ hc22) ?_)
          rintro e w ⟨rfl, hI⟩
          refine ⟨_, rfl, ?_⟩
          refine ⟨fun _ _ => hI, ?_⟩
          obtain ⟨hg24, h1⟩ := guardS h1
          refine GmT.r (i := 5) 4 (by kernel_rfl) (by kernel_rfl) (Yl.cat (d := 42) (T := 9) (x := y21) (y := y23) (by kernel_rfl) hg24) hI ?_
          obtain ⟨hg25, h1⟩ := guardS h1
          refine GmT.r (i := 18) 3 (by kernel_rfl) (by kernel_rfl) (Yl.cat (d := 55) (T := 9) (x := y21 ++ y23) (y := sx y9 (wi64 (x17 * (wi64 (a1 - 6)))) (if (y9.size : Int) < (wi64 ((wi64 (x17 + 1)) * (wi64 (a1 - 6)))) then (y9.size : Int) else wi64 ((wi64 (x17 + 1)) * (wi64 (a1 - 6))))) (by kernel_rfl) hg25) hI ?_
          refine GmT.o (i := 19) (by kernel_rfl) (Does.buildSlice (en := cS) (d := 56) (n := 1) (T := 36) (ps := [(0, .string ((y21 ++ y23) ++ (sx y9 (wi64 (x17 * (wi64 (a1 - 6)))) (if (y9.size : Int) < (wi64 ((wi64 (x17 + 1)) * (wi64 (a1 - 6)))) then (y9.size : Int) else wi64 ((wi64 (x17 + 1)) * (wi64 (a1 - 6)))))))]) ([(y21 ++ y23) ++ (sx y9 (wi64 (x17 * (wi64 (a1 - 6)))) (if (y9.size : Int) < (wi64 ((wi64 (x17 + 1)) * (wi64 (a1 - 6)))) then (y9.size : Int) else wi64 ((wi64 (x17 + 1)) * (wi64 (a1 - 6)))))] : List ByteArray) (by kernel_rfl) Go.Proofs.Try.underlying36 ty9 (by kernel_rfl) (by kernel_rfl) (by kernel_rfl) (by kernel_rfl) (len_all (fun _ => rfl)) hI ?_)
          intro b26 w hI
          have hC := hI
          have hC := hC.drop
          refine ⟨fun _ _ => hC, ?_⟩
          obtain ⟨hg27, h1⟩ := guardS h1
          have hI := hI.mono (pick2 _ _ _)
          refine GmT.o (i := 20) (by kernel_rfl) (Does.append (d := 57) (t := 36) (tx := 36) (ty := 36) (ys := x14) (zs := ([(y21 ++ y23) ++ (sx y9 (wi64 (x17 * (wi64 (a1 - 6)))) (if (y9.size : Int) < (wi64 ((wi64 (x17 + 1)) * (wi64 (a1 - 6)))) then (y9.size : Int) else wi64 ((wi64 (x17 + 1)) * (wi64 (a1 - 6)))))] : List ByteArray)) (x := .slice (some ⟨b26, 0, none⟩) (([(y21 ++ y23) ++ (sx y9 (wi64 (x17 * (wi64 (a1 - 6)))) (if (y9.size : Int) < (wi64 ((wi64 (x17 + 1)) * (wi64 (a1 - 6)))) then (y9.size : Int) else wi64 ((wi64 (x17 + 1)) * (wi64 (a1 - 6)))))] : List ByteArray).length) 1) (by kernel_rfl) Go.Proofs.Try.underlying36 ty9 (by kernel_rfl) hI (src_own Go.Proofs.Try.underlying36 (hI.mono (pick2 _ _ _)) (one_flat _ (fun _ => rfl))) (ownS_facts (hI.mono (pick2 _ _ _))).2.2 (by unfold LIM at hg27; omega) hg27 ?_)
          intro A28 cp29 w hI
          refine ⟨fun h => absurd h (by decide), ?_⟩
          refine GmT.p' 21 8 (.slice A28 ((x14 ++ ([(y21 ++ y23) ++ (sx y9 (wi64 (x17 * (wi64 (a1 - 6)))) (if (y9.size : Int) < (wi64 ((wi64 (x17 + 1)) * (wi64 (a1 - 6)))) then (y9.size : Int) else wi64 ((wi64 (x17 + 1)) * (wi64 (a1 - 6)))))] : List ByteArray)).length) cp29) (by kernel_rfl) (by kernel_rfl) ?_
          refine GmT.done (by kernel_rfl) ?_
          refine Qn.block_normal ?_
          refine Qn.then ?_
          refine CodT.regionL [0, 1, 2] (by kernel_rfl) ?_
          refine OpsT.pures (r := []) [0, 1, 2] [5, 6, 7, 8, 9] (S' := [(5, .string y9), (6, .int .i64 (wi64 (a1 - 6))), (7, .int .i64 (wi64 ((wi64 ((wi64 ((y9.size : Int) + (wi64 (a1 - 6)))) - 1)).tdiv (wi64 (a1 - 6))))), (8, .slice A28 ((x14 ++ ([(y21 ++ y23) ++ (sx y9 (wi64 (x17 * (wi64 (a1 - 6)))) (if (y9.size : Int) < (wi64 ((wi64 (x17 + 1)) * (wi64 (a1 - 6)))) then (y9.size : Int) else wi64 ((wi64 (x17 + 1)) * (wi64 (a1 - 6)))))] : List ByteArray)).length) cp29), (9, .int .i64 (wi64 (x17 + 1)))]) (by kernel_rfl) ?_
          refine OpsT.done ?_
          have hI := hI.mono (pick2 _ _ _)
          have hI := hI.drop
          exact Qn.thenJ fun a ha => ⟨k, Nat.lt_succ_self k, x14 ++ ([(y21 ++ y23) ++ (sx y9 (wi64 (x17 * (wi64 (a1 - 6)))) (if (y9.size : Int) < (wi64 ((wi64 (x17 + 1)) * (wi64 (a1 - 6)))) then (y9.size : Int) else wi64 ((wi64 (x17 + 1)) * (wi64 (a1 - 6)))))] : List ByteArray), wi64 (x17 + 1), A28, cp29, h1, ha.keep [5, 6, 7, 8, 9] (by kernel_rfl), hI⟩
        · rw [if_neg hb18] at h1
          refine CodT.no' (b := decide (x17 < (wi64 ((wi64 ((wi64 ((y9.size : Int) + (wi64 (a1 - 6)))) - 1)).tdiv (wi64 (a1 - 6)))))) (by kernel_rfl) (by simpa using hb18) ?_
          refine CodT.exit ?_
          refine Qn.exit_then ?_
          refine Qn.exit_then ?_
          refine Qn.block ?_
          have e := someS h1
          subst e
          exact Qn.thenJ fun a ha => ⟨x14, A15, cp16, rfl, ha.keep [8] (by kernel_rfl), hI⟩
      ·
        rintro a w ⟨x11, A12, cp13, rfl, ha, hI⟩
        try dsimp only at h0
        refine Qn.of ?_ ha
        refine Qn.then ?_
        refine CodT.seq ?_
        refine CodT.regionL [0, 1] (by kernel_rfl) ?_
        refine OpsT.pures (r := []) [0, 1] [4] (S' := [(4, .slice A12 x11.length cp13)]) (by kernel_rfl) ?_
        refine OpsT.done ?_
        refine Qn.then ?_
        refine CodT.ret ?_
        have e := someS h0
        subst e
        refine Qn.keep [4] (S' := [(4, .slice A12 x11.length cp13)]) (by kernel_rfl) ?_
        exact post_ret (v := .slice A12 x11.length cp13) (fun a ha => RunRes.run (vs := [.slice A12 x11.length cp13]) (.tmp (t := 4) (by kernel_rfl) .nil) ha (by kernel_rfl)) ⟨A12, cp13, rfl, hI⟩
set_option maxRecDepth 100000 in
set_option maxHeartbeats 4000000 in
/-- cenotaph/cenotaphref07.Texts -/
theorem c16 (w0 w : World) (Z : Hp) (A : HP) (hI : Inv w0 Z w A) (A_a0 : Option Addr) (c_a0 : Nat) (a0 : (List ByteArray)) (hr_a0 : RdS Z cS 1 A_a0 c_a0 a0) (A_a1 : Option Addr) (c_a1 : Nat) (a1 : (List ByteArray)) (hr_a1 : RdS Z cS 1 A_a1 c_a1 a1) (r : Bool) (h0 : ref07_Texts a0 a1 = some r) :
    Calls prog 16 #[.slice A_a0 a0.length c_a0, .slice A_a1 a1.length c_a1] w (fun e w' => e = .returned (.bool r) ∧ Inv w0 Z w' A) := by
  have e4 := calls_intro (R := (fun e w' => e = .returned (.bool r) ∧ Inv w0 Z w' A)) (w := w) (args := [.slice A_a0 a0.length c_a0, .slice A_a1 a1.length c_a1]) (fn := Go.Proofs.Try.f16) 26 Go.Proofs.Try.func16 (by rfl) Go.Proofs.Try.ntmps16 (by kernel_rfl)
  refine e4 ?_
  clear e4
  unfold ref07_Texts at h0
  refine CodT.seq ?_
  refine CodT.regionL [0] (by kernel_rfl) ?_
  refine OpsT.pures (r := []) [0] [0, 1] (S' := [(0, .slice A_a0 a0.length c_a0), (1, .slice A_a1 a1.length c_a1)]) (by kernel_rfl) ?_
  refine OpsT.done ?_
  refine Qn.then ?_
  refine CodT.seq ?_
  refine CodT.seq ?_
  refine CodT.regionL [0, 1, 2, 3, 4] (by kernel_rfl) ?_
  refine OpsT.pures (r := []) [0, 1, 2, 3, 4] [0, 1, 10] (S' := [(0, .slice A_a0 a0.length c_a0), (1, .slice A_a1 a1.length c_a1), (10, .bool ((a0.length : Int) != (a1.length : Int)))]) (by kernel_rfl) ?_
  refine OpsT.done ?_
  refine Qn.then ?_
  by_cases hb1 : ((a0.length : Int) != (a1.length : Int)) = true
  · rw [if_pos hb1] at h0
    refine CodT.yes' (b := (a0.length : Int) != (a1.length : Int)) (by kernel_rfl) hb1 ?_
    refine CodT.seq ?_
    refine CodT.regionL [0] (by kernel_rfl) ?_
    refine OpsT.pures (r := []) [0] [4] (S' := [(4, .bool false)]) (by kernel_rfl) ?_
    refine OpsT.done ?_
    refine Qn.then ?_
    refine CodT.ret ?_
    refine Qn.ret_then ?_
    have e := someS h0
    subst e
    refine Qn.keep [4] (S' := [(4, .bool false)]) (by kernel_rfl) ?_
    exact post_ret (v := .bool false) (fun a ha => RunRes.run (vs := [.bool false]) (.tmp (t := 4) (by kernel_rfl) .nil) ha (by kernel_rfl)) ⟨rfl, hI⟩
  · rw [if_neg hb1] at h0
    refine CodT.no' (b := (a0.length : Int) != (a1.length : Int)) (by kernel_rfl) (by simpa using hb1) ?_
    refine CodT.skip ?_
    refine Qn.then ?_
    refine CodT.seq ?_
    refine CodT.seq ?_
    refine CodT.regionL [0] (by kernel_rfl) ?_
    refine OpsT.pures (r := []) [0] [0, 1, 5] (S' := [(0, .slice A_a0 a0.length c_a0), (1, .slice A_a1 a1.length c_a1), (5, .int .i64 0)]) (by kernel_rfl) ?_
    refine OpsT.done ?_
    refine Qn.then ?_
    obtain ⟨r1, h1, h0⟩ := bindS h0
    refine CodT.meet1 (fun a w => .inr () = r1 ∧ Fr 26 [] a ∧ Inv w0 Z w A) ?_ ?_
    ·
      refine CodT.block ?_
      refine (fun a ha => wp_loopN (fun k a w => ∃ (x2 : Int), ref07_Texts.l0 a0 a1 k x2 = some r1 ∧ Fr 26 [(0, .slice A_a0 a0.length c_a0), (1, .slice A_a1 a1.length c_a1), (5, .int .i64 x2)] a ∧ Inv w0 Z w A) ?_ FU a w ⟨0, h1, ha.keep [0, 1, 5] (by kernel_rfl), hI⟩)
      clear h1 hI
      rintro k a w ⟨x2, h1, ha, hI⟩
      rcases k with _ | k
      · cases h1
      simp only [ref07_Texts.l0] at h1
      refine CodT.of ?_ ha
      refine CodT.seq ?_
      refine CodT.seq ?_
      refine CodT.regionL [0, 1, 2, 3] (by kernel_rfl) ?_
      refine OpsT.pures (r := []) [0, 1, 2, 3] [0, 1, 5, 14] (S' := [(0, .slice A_a0 a0.length c_a0), (1, .slice A_a1 a1.length c_a1), (5, .int .i64 x2), (14, .bool (decide (x2 < (a0.length : Int))))]) (by kernel_rfl) ?_
      refine OpsT.done ?_
      refine Qn.then ?_
      by_cases hb3 : (decide (x2 < (a0.length : Int))) = true
      · rw [if_pos hb3] at h1
        refine CodT.yes' (b := decide (x2 < (a0.length : Int))) (by kernel_rfl) hb3 ?_
        refine CodT.skip ?_
        refine Qn.then ?_
        refine CodT.seq ?_
        refine CodT.block ?_
        refine CodT.seq ?_
        refine CodT.drawI (n := 9) [] (by kernel_rfl) (by kernel_rfl) hI ?_
        intro w hI
        refine GmT.p' 0 17 (.slice A_a0 a0.length c_a0) (by kernel_rfl) (by kernel_rfl) ?_
        refine GmT.p' 1 18 (.int .i64 x2) (by kernel_rfl) (by kernel_rfl) ?_
        refine GmT.p' 4 21 (.slice A_a1 a1.length c_a1) (by kernel_rfl) (by kernel_rfl) ?_
        refine GmT.p' 5 22 (.int .i64 x2) (by kernel_rfl) (by kernel_rfl) ?_
        obtain ⟨hg4, h1⟩ := guardS h1
        obtain ⟨g5, o9, hA6, hr7, hl8⟩ := RdS.get hr_a0 hg4.1 hg4.2
        refine GmT.r (i := 2) 2 (by kernel_rfl) (by kernel_rfl) (Yl.indexSlice (d := 19) (T := 36) (cc := c_a0) (k := .i64) (j := x2) (g := g5) (o := o9) (by kernel_rfl) Go.Proofs.Try.underlying36 ty9 hA6 hg4.1 hg4.2) hI ?_
        refine GmT.r (i := 3) 2 (by kernel_rfl) (by kernel_rfl) (Yl.load (d := 20) (T := 9) (v := .string (gt a0 x2)) (by kernel_rfl) (ldR ty9 (v := .string (gt a0 x2)) 0 (fun w hC => hr7 w0 w _ hC) (by kernel_rfl))) hI ?_
        obtain ⟨hg10, h1⟩ := guardS h1
        obtain ⟨g11, o15, hA12, hr13, hl14⟩ := RdS.get hr_a1 hg10.1 hg10.2
        refine GmT.r (i := 6) 2 (by kernel_rfl) (by kernel_rfl) (Yl.indexSlice (d := 23) (T := 36) (cc := c_a1) (k := .i64) (j := x2) (g := g11) (o := o15) (by kernel_rfl) Go.Proofs.Try.underlying36 ty9 hA12 hg10.1 hg10.2) hI ?_
        refine GmT.r (i := 7) 2 (by kernel_rfl) (by kernel_rfl) (Yl.load (d := 24) (T := 9) (v := .string (gt a1 x2)) (by kernel_rfl) (ldR ty9 (v := .string (gt a1 x2)) 0 (fun w hC => hr13 w0 w _ hC) (by kernel_rfl))) hI ?_
        refine GmT.p' 8 25 (.bool (!(seq (gt a0 x2) (gt a1 x2)))) (by kernel_rfl) (by kernel_rfl) ?_
        refine GmT.done (by kernel_rfl) ?_
        refine Qn.then ?_
        by_cases hb16 : (!(seq (gt a0 x2) (gt a1 x2))) = true
        · rw [if_pos hb16] at h1
          refine CodT.yes' (b := !(seq (gt a0 x2) (gt a1 x2))) (by kernel_rfl) hb16 ?_
          refine CodT.seq ?_
          refine CodT.regionL [0] (by kernel_rfl) ?_
          refine OpsT.pures (r := []) [0] [4] (S' := [(4, .bool false)]) (by kernel_rfl) ?_
          refine OpsT.done ?_
          refine Qn.then ?_
          refine CodT.ret ?_
          refine Qn.block_ret ?_
          refine Qn.ret_then ?_
          refine Qn.ret_then ?_
          refine Qn.block_ret ?_
          refine Qn.ret_then ?_
          refine Qn.ret_then ?_
          have e := someS h1
          subst e
          try dsimp only at h0
          have e := someS h0
          subst e
          refine Qn.keep [4] (S' := [(4, .bool false)]) (by kernel_rfl) ?_
          exact post_ret (v := .bool false) (fun a ha => RunRes.run (vs := [.bool false]) (.tmp (t := 4) (by kernel_rfl) .nil) ha (by kernel_rfl)) ⟨rfl, hI⟩
        · rw [if_neg hb16] at h1
          refine CodT.no' (b := !(seq (gt a0 x2) (gt a1 x2))) (by kernel_rfl) (by simpa using hb16) ?_
          refine CodT.skip ?_
          refine Qn.block_normal ?_
          refine Qn.then ?_
          refine CodT.regionL [0, 1, 2] (by kernel_rfl) ?_
          refine OpsT.pures (r := []) [0, 1, 2] [0, 1, 5] (S' := [(0, .slice A_a0 a0.length c_a0), (1, .slice A_a1 a1.length c_a1), (5, .int .i64 (wi64 (x2 + 1)))]) (by kernel_rfl) ?_
          refine OpsT.done ?_
          exact Qn.thenJ fun a ha => ⟨k, Nat.lt_succ_self k, wi64 (x2 + 1), h1, ha.keep [0, 1, 5] (by kernel_rfl), hI⟩
      · rw [if_neg hb3] at h1
        refine CodT.no' (b := decide (x2 < (a0.length : Int))) (by kernel_rfl) (by simpa using hb3) ?_
        refine CodT.exit ?_
        refine Qn.exit_then ?_
        refine Qn.exit_then ?_
        refine Qn.block ?_
        have e := someS h1
        subst e
        exact Qn.thenJ fun a ha => ⟨rfl, ha.keep [] (by kernel_rfl), hI⟩
    ·
      rintro a w ⟨rfl, ha, hI⟩
      try dsimp only at h0
      refine Qn.of ?_ ha
      refine Qn.then ?_
      refine CodT.seq ?_
      refine CodT.regionL [0] (by kernel_rfl) ?_
      refine OpsT.pures (r := []) [0] [4] (S' := [(4, .bool true)]) (by kernel_rfl) ?_
      refine OpsT.done ?_
      refine Qn.then ?_
      refine CodT.ret ?_
      have e := someS h0
      subst e
      refine Qn.keep [4] (S' := [(4, .bool true)]) (by kernel_rfl) ?_
      exact post_ret (v := .bool true) (fun a ha => RunRes.run (vs := [.bool true]) (.tmp (t := 4) (by kernel_rfl) .nil) ha (by kernel_rfl)) ⟨rfl, hI⟩
set_option maxRecDepth 100000 in
set_option maxHeartbeats 4000000 in
/-- cenotaph/cenotaphref04.GetNum -/
theorem c57 (w0 w : World) (Z : Hp) (A : HP) (hI : Inv w0 Z w A) (a0 : ByteArray) (r : (Int × ByteArray × Bool)) (h0 : ref04_GetNum a0 = some r) :
    Calls prog 57 #[.string a0] w (fun e w' => e = .returned (.tuple #[.int .i64 r.1, .string r.2.1, .bool r.2.2]) ∧ Inv w0 Z w' A) := by
  have e4 := calls_intro (R := (fun e w' => e = .returned (.tuple #[.int .i64 r.1, .string r.2.1, .bool r.2.2]) ∧ Inv w0 Z w' A)) (w := w) (args := [.string a0]) (fn := Go.Proofs.Try.f57) 49 Go.Proofs.Try.func57 (by rfl) Go.Proofs.Try.ntmps57 (by kernel_rfl)
  refine e4 ?_
  clear e4
  unfold ref04_GetNum at h0
  refine CodT.seq ?_
  refine CodT.regionL [0, 1, 2] (by kernel_rfl) ?_
  refine OpsT.pures (r := []) [0, 1, 2] [0] (S' := [(0, .string a0)]) (by kernel_rfl) ?_
  refine OpsT.done ?_
  refine Qn.then ?_
  refine CodT.seq ?_
  refine CodT.regionL [0] (by kernel_rfl) ?_
  refine OpsT.pures (r := []) [0] [0, 5] (S' := [(0, .string a0), (5, .int .i64 0)]) (by kernel_rfl) ?_
  refine OpsT.done ?_
  refine Qn.then ?_
  refine CodT.seq ?_
  refine CodT.regionL [0] (by kernel_rfl) ?_
  refine OpsT.pures (r := []) [0] [0, 5, 6] (S' := [(0, .string a0), (5, .int .i64 0), (6, .int .i64 1)]) (by kernel_rfl) ?_
  refine OpsT.done ?_
  refine Qn.then ?_
  refine CodT.seq ?_
  refine CodT.seq ?_
  refine CodT.regionL [0] (by kernel_rfl) ?_
  refine OpsT.pures (r := []) [0] [0, 5, 6, 7] (S' := [(0, .string a0), (5, .int .i64 0), (6, .int .i64 1), (7, .int .i64 0)]) (by kernel_rfl) ?_
  refine OpsT.done ?_
  refine Qn.then ?_
  obtain ⟨r1, h1, h0⟩ := bindS h0
  refine CodT.meet1 (fun a w => .inr () = r1 ∧ Fr 49 [] a ∧ Inv w0 Z w A) ?_ ?_
  ·
    refine CodT.block ?_
    refine (fun a ha => wp_loopN (fun k a w => ∃ (x1 : Int) (x2 : Int) (x3 : Int), ref04_GetNum.l0 a0 k x1 x2 x3 = some r1 ∧ Fr 49 [(0, .string a0), (5, .int .i64 x1), (6, .int .i64 x2), (7, .int .i64 x3)] a ∧ Inv w0 Z w A) ?_ FU a w ⟨0, 1, 0, h1, ha.keep [0, 5, 6, 7] (by kernel_rfl), hI⟩)
    clear h1 hI
    rintro k a w ⟨x1, x2, x3, h1, ha, hI⟩
    rcases k with _ | k
    · cases h1
    simp only [ref04_GetNum.l0] at h1
    refine CodT.of ?_ ha
    refine CodT.seq ?_
    obtain ⟨r2, h2, h1⟩ := bindS h1
    refine CodT.meet (fun a w => ∃ (x4 : Bool), x4 = r2 ∧ Fr 49 [(0, .string a0), (5, .int .i64 x1), (6, .int .i64 x2), (7, .int .i64 x3), (15, .bool x4)] a ∧ Inv w0 Z w A) ?_ ?_
    ·
      refine CodT.regionL [0, 1, 2, 3, 4, 5, 6, 7] (by kernel_rfl) ?_
      refine OpsT.pures (r := [5, 6, 7]) [0, 1, 2, 3, 4] [0, 5, 6, 7, 12] (S' := [(0, .string a0), (5, .int .i64 x1), (6, .int .i64 x2), (7, .int .i64 x3), (12, .bool (decide (x3 < (a0.size : Int))))]) (by kernel_rfl) ?_
      by_cases hb5 : (decide (x3 < (a0.size : Int))) = true
      · rw [if_pos hb5] at h2
        refine OpsT.keep [0, 5, 6, 7, 12] (S' := [(0, .string a0), (5, .int .i64 x1), (6, .int .i64 x2), (7, .int .i64 x3), (12, .bool true)]) (by simp only [hb5]; kernel_rfl) ?_
        refine OpsT.pures (r := []) [5, 6, 7] [0, 5, 6, 7, 15] (S' := [(0, .string a0), (5, .int .i64 x1), (6, .int .i64 x2), (7, .int .i64 x3), (15, .bool (decide (x3 < 8)))]) (by kernel_rfl) ?_
        refine OpsT.done ?_
        have e := someS h2
        subst e
        exact Qn.thenJ fun a ha => ⟨decide (x3 < 8), rfl, ha.keep [0, 5, 6, 7, 15] (by kernel_rfl), hI⟩
      · rw [if_neg hb5] at h2
        have hb5 : (decide (x3 < (a0.size : Int))) = false := by simpa using hb5
        refine OpsT.keep [0, 5, 6, 7, 12] (S' := [(0, .string a0), (5, .int .i64 x1), (6, .int .i64 x2), (7, .int .i64 x3), (12, .bool false)]) (by simp only [hb5]; kernel_rfl) ?_
        refine OpsT.pures (r := []) [5, 6, 7] [0, 5, 6, 7, 15] (S' := [(0, .string a0), (5, .int .i64 x1), (6, .int .i64 x2), (7, .int .i64 x3), (15, .bool false)]) (by kernel_rfl) ?_
        refine OpsT.done ?_
        have e := someS h2
        subst e
        exact Qn.thenJ fun a ha => ⟨false, rfl, ha.keep [0, 5, 6, 7, 15] (by kernel_rfl), hI⟩
    ·
      rintro a w ⟨x4, rfl, ha, hI⟩
      try dsimp only at h1
      refine CodT.of ?_ ha
      by_cases hb6 : x4 = true
      · rw [if_pos hb6] at h1
        refine CodT.yes' (b := x4) (by kernel_rfl) hb6 ?_
        refine CodT.skip ?_
        refine Qn.then ?_
        refine CodT.seq ?_
        refine CodT.block ?_
        refine CodT.seq ?_
        refine CodT.regionL [0, 1, 2, 3, 4, 5, 6, 7, 8, 9] (by kernel_rfl) ?_
        refine OpsT.pures (r := [3, 4, 5, 6, 7, 8, 9]) [0, 1, 2] [0, 6, 7, 18, 19, 20] (S' := [(0, .string a0), (6, .int .i64 x2), (7, .int .i64 x3), (18, .int .i64 x1), (19, .string a0), (20, .int .i64 x3)]) (by kernel_rfl) ?_
        obtain ⟨hg7, h1⟩ := guardS h1
        refine OpsT.cons (Does.yi (Yl.indexStr (d := 21) (T := 9) (k := .i64) (j := x3) (s := a0) (by kernel_rfl) Go.Proofs.Try.underlying9 hg7.1 hg7.2) hI ?_)
        refine OpsT.pures (r := []) [4, 5, 6, 7, 8, 9] [0, 5, 6, 7] (S' := [(0, .string a0), (5, .int .i64 (wi64 (x1 + (wi64 (((wi64 (bt a0 x3)).tmod 128) * x2))))), (6, .int .i64 x2), (7, .int .i64 x3)]) (by kernel_rfl) ?_
        refine OpsT.done ?_
        refine Qn.then ?_
        refine CodT.seq ?_
        refine CodT.regionL [0, 1, 2] (by kernel_rfl) ?_
        refine OpsT.pures (r := []) [0, 1, 2] [0, 5, 6, 7] (S' := [(0, .string a0), (5, .int .i64 (wi64 (x1 + (wi64 (((wi64 (bt a0 x3)).tmod 128) * x2))))), (6, .int .i64 (wi64 (x2 * 128))), (7, .int .i64 x3)]) (by kernel_rfl) ?_
        refine OpsT.done ?_
        refine Qn.then ?_
        refine CodT.seq ?_
        refine CodT.regionL [0, 1, 2, 3] (by kernel_rfl) ?_
        refine OpsT.pures (r := [2, 3]) [0, 1] [0, 5, 6, 7, 29, 30] (S' := [(0, .string a0), (5, .int .i64 (wi64 (x1 + (wi64 (((wi64 (bt a0 x3)).tmod 128) * x2))))), (6, .int .i64 (wi64 (x2 * 128))), (7, .int .i64 x3), (29, .string a0), (30, .int .i64 x3)]) (by kernel_rfl) ?_
        obtain ⟨hg8, h1⟩ := guardS h1
        refine OpsT.cons (Does.yi (Yl.indexStr (d := 31) (T := 9) (k := .i64) (j := x3) (s := a0) (by kernel_rfl) Go.Proofs.Try.underlying9 hg8.1 hg8.2) hI ?_)
        refine OpsT.pures (r := []) [3] [0, 5, 6, 7, 32] (S' := [(0, .string a0), (5, .int .i64 (wi64 (x1 + (wi64 (((wi64 (bt a0 x3)).tmod 128) * x2))))), (6, .int .i64 (wi64 (x2 * 128))), (7, .int .i64 x3), (32, .bool (decide ((bt a0 x3) < 128)))]) (by kernel_rfl) ?_
        refine OpsT.done ?_
        refine Qn.then ?_
        by_cases hb9 : (decide ((bt a0 x3) < 128)) = true
        · rw [if_pos hb9] at h1
          refine CodT.yes' (b := decide ((bt a0 x3) < 128)) (by kernel_rfl) hb9 ?_
          refine CodT.seq ?_
          obtain ⟨r2, h2, h1⟩ := bindS h1
          refine CodT.meet (fun a w => ∃ (x10 : Bool), x10 = r2 ∧ Fr 49 [(0, .string a0), (5, .int .i64 (wi64 (x1 + (wi64 (((wi64 (bt a0 x3)).tmod 128) * x2))))), (7, .int .i64 x3), (43, .bool x10)] a ∧ Inv w0 Z w A) ?_ ?_
          ·
            refine CodT.drawI (n := 11) [] (by kernel_rfl) (by kernel_rfl) hI ?_
            intro w hI
            refine GmT.p' 0 33 (.int .i64 (wi64 (x1 + (wi64 (((wi64 (bt a0 x3)).tmod 128) * x2))))) (by kernel_rfl) (by kernel_rfl) ?_
            refine GmT.p' 1 34 (.bool (decide ((wi64 (x1 + (wi64 (((wi64 (bt a0 x3)).tmod 128) * x2)))) > 1125899906842624))) (by kernel_rfl) (by kernel_rfl) ?_
            refine GmT.p' 2 35 (.bool (decide ((wi64 (x1 + (wi64 (((wi64 (bt a0 x3)).tmod 128) * x2)))) > 1125899906842624))) (by kernel_rfl) (by kernel_rfl) ?_
            by_cases hb11 : (decide ((wi64 (x1 + (wi64 (((wi64 (bt a0 x3)).tmod 128) * x2)))) > 1125899906842624)) = true
            · rw [if_pos hb11] at h2
              refine GmT.keep [0, 5, 7, 35] (S' := [(0, .string a0), (5, .int .i64 (wi64 (x1 + (wi64 (((wi64 (bt a0 x3)).tmod 128) * x2))))), (7, .int .i64 x3), (35, .bool true)]) (by simp only [hb11]; kernel_rfl) ?_
              refine GmT.p' 3 36 (undef) (by kernel_rfl) (by kernel_rfl) ?_
              refine GmT.p' 4 37 (undef) (by kernel_rfl) (by kernel_rfl) ?_
              refine GmT.p' 5 38 (undef) (by kernel_rfl) (by kernel_rfl) ?_
              refine GmT.p' 6 39 (undef) (by kernel_rfl) (by kernel_rfl) ?_
              refine GmT.p' 7 40 (undef) (by kernel_rfl) (by kernel_rfl) ?_
              refine GmT.p' 8 41 (undef) (by kernel_rfl) (by kernel_rfl) ?_
              refine GmT.p' 9 42 (undef) (by kernel_rfl) (by kernel_rfl) ?_
              refine GmT.p' 10 43 (.bool true) (by kernel_rfl) (by kernel_rfl) ?_
              refine GmT.done (by kernel_rfl) ?_
              have e := someS h2
              subst e
              exact Qn.thenJ fun a ha => ⟨true, rfl, ha.keep [0, 5, 7, 43] (by kernel_rfl), hI⟩
            · rw [if_neg hb11] at h2
              have hb11 : (decide ((wi64 (x1 + (wi64 (((wi64 (bt a0 x3)).tmod 128) * x2)))) > 1125899906842624)) = false := by simpa using hb11
              refine GmT.keep [0, 5, 7, 35] (S' := [(0, .string a0), (5, .int .i64 (wi64 (x1 + (wi64 (((wi64 (bt a0 x3)).tmod 128) * x2))))), (7, .int .i64 x3), (35, .bool false)]) (by simp only [hb11]; kernel_rfl) ?_
              refine GmT.p' 3 36 (.int .i64 (wi64 (x1 + (wi64 (((wi64 (bt a0 x3)).tmod 128) * x2))))) (by kernel_rfl) (by kernel_rfl) ?_
              refine GmT.p' 5 38 (.string a0) (by kernel_rfl) (by kernel_rfl) ?_
              refine GmT.p' 6 39 (.int .i64 x3) (by kernel_rfl) (by kernel_rfl) ?_
              refine GmT.p' 7 40 (.int .i64 (wi64 (x3 + 1))) (by kernel_rfl) (by kernel_rfl) ?_
              obtain ⟨hg12, h2⟩ := guardS h2
              refine GmT.r (i := 8) 2 (by kernel_rfl) (by kernel_rfl) (Yl.sliceStr01 (d := 41) (T := 9) (s := a0) (hi := wi64 (x3 + 1)) (by kernel_rfl) Go.Proofs.Try.underlying9 hg12) hI ?_
              obtain ⟨y14, hc13, h2⟩ := bindS h2
              try dsimp only at h2
              refine GmT.o (i := 4) (by kernel_rfl) (Does.call (d := some 37) (n := 51) (vs := [.int .i64 (wi64 (x1 + (wi64 (((wi64 (bt a0 x3)).tmod 128) * x2))))]) (by kernel_rfl) en51 (c51 w0 w _ _ hI (wi64 (x1 + (wi64 (((wi64 (bt a0 x3)).tmod 128) * x2)))) _ hc13) ?_)
              rintro e w ⟨rfl, hI⟩
              refine ⟨_, rfl, ?_⟩
              refine ⟨fun _ _ => hI, ?_⟩
              refine GmT.p' 9 42 (.bool (!(seq y14 (sx a0 0 (wi64 (x3 + 1)))))) (by kernel_rfl) (by kernel_rfl) ?_
              refine GmT.p' 10 43 (.bool (!(seq y14 (sx a0 0 (wi64 (x3 + 1)))))) (by kernel_rfl) (by kernel_rfl) ?_
              refine GmT.done (by kernel_rfl) ?_
              have e := someS h2
              subst e
              exact Qn.thenJ fun a ha => ⟨!(seq y14 (sx a0 0 (wi64 (x3 + 1)))), rfl, ha.keep [0, 5, 7, 43] (by kernel_rfl), hI⟩
          ·
            rintro a w ⟨x10, rfl, ha, hI⟩
            try dsimp only at h1
            refine CodT.of ?_ ha
            by_cases hb15 : x10 = true
            · rw [if_pos hb15] at h1
              refine CodT.yes' (b := x10) (by kernel_rfl) hb15 ?_
              refine CodT.seq ?_
              refine CodT.regionL [0, 1, 2] (by kernel_rfl) ?_
              refine OpsT.pures (r := []) [0, 1, 2] [2, 3, 4] (S' := [(2, .int .i64 0), (3, .string (⟨#[]⟩ : ByteArray)), (4, .bool false)]) (by kernel_rfl) ?_
              refine OpsT.done ?_
              refine Qn.then ?_
              refine CodT.ret ?_
              refine Qn.ret_then ?_
              refine Qn.block_ret ?_
              refine Qn.ret_then ?_
              refine Qn.ret_then ?_
              refine Qn.block_ret ?_
              refine Qn.ret_then ?_
              refine Qn.ret_then ?_
              have e := someS h1
              subst e
              try dsimp only at h0
              have e := someS h0
              subst e
              refine Qn.keep [2, 3, 4] (S' := [(2, .int .i64 0), (3, .string (⟨#[]⟩ : ByteArray)), (4, .bool false)]) (by kernel_rfl) ?_
              exact post_ret (v := .tuple #[.int .i64 0, .string (⟨#[]⟩ : ByteArray), .bool false]) (fun a ha => RunRes.run (vs := [.int .i64 0, .string (⟨#[]⟩ : ByteArray), .bool false]) (.tmp (t := 2) (by kernel_rfl) (.tmp (t := 3) (by kernel_rfl) (.tmp (t := 4) (by kernel_rfl) .nil))) ha (by kernel_rfl)) ⟨rfl, hI⟩
            · rw [if_neg hb15] at h1
              refine CodT.no' (b := x10) (by kernel_rfl) (by simpa using hb15) ?_
              refine CodT.skip ?_
              refine Qn.then ?_
              refine CodT.seq ?_
              refine CodT.drawI (n := 8) [] (by kernel_rfl) (by kernel_rfl) hI ?_
              intro w hI
              refine GmT.p' 0 44 (.int .i64 (wi64 (x1 + (wi64 (((wi64 (bt a0 x3)).tmod 128) * x2))))) (by kernel_rfl) (by kernel_rfl) ?_
              refine GmT.p' 1 45 (.string a0) (by kernel_rfl) (by kernel_rfl) ?_
              refine GmT.p' 2 46 (.int .i64 x3) (by kernel_rfl) (by kernel_rfl) ?_
              refine GmT.p' 3 47 (.int .i64 (wi64 (x3 + 1))) (by kernel_rfl) (by kernel_rfl) ?_
              refine GmT.p' 5 2 (.int .i64 (wi64 (x1 + (wi64 (((wi64 (bt a0 x3)).tmod 128) * x2))))) (by kernel_rfl) (by kernel_rfl) ?_
              obtain ⟨hg16, h1⟩ := guardS h1
              refine GmT.r (i := 4) 2 (by kernel_rfl) (by kernel_rfl) (Yl.sliceStr10 (d := 48) (T := 9) (s := a0) (lo := wi64 (x3 + 1)) (by kernel_rfl) Go.Proofs.Try.underlying9 hg16) hI ?_
              refine GmT.p' 6 3 (.string (sx a0 (wi64 (x3 + 1)) (a0.size : Int))) (by kernel_rfl) (by kernel_rfl) ?_
              refine GmT.p' 7 4 (.bool true) (by kernel_rfl) (by kernel_rfl) ?_
              refine GmT.done (by kernel_rfl) ?_
              refine Qn.then ?_
              refine CodT.ret ?_
              refine Qn.block_ret ?_
              refine Qn.ret_then ?_
              refine Qn.ret_then ?_
              refine Qn.block_ret ?_
              refine Qn.ret_then ?_
              refine Qn.ret_then ?_
              have e := someS h1
              subst e
              try dsimp only at h0
              have e := someS h0
              subst e
              refine Qn.keep [2, 3, 4] (S' := [(2, .int .i64 (wi64 (x1 + (wi64 (((wi64 (bt a0 x3)).tmod 128) * x2))))), (3, .string (sx a0 (wi64 (x3 + 1)) (a0.size : Int))), (4, .bool true)]) (by kernel_rfl) ?_
              exact post_ret (v := .tuple #[.int .i64 (wi64 (x1 + (wi64 (((wi64 (bt a0 x3)).tmod 128) * x2)))), .string (sx a0 (wi64 (x3 + 1)) (a0.size : Int)), .bool true]) (fun a ha => RunRes.run (vs := [.int .i64 (wi64 (x1 + (wi64 (((wi64 (bt a0 x3)).tmod 128) * x2)))), .string (sx a0 (wi64 (x3 + 1)) (a0.size : Int)), .bool true]) (.tmp (t := 2) (by kernel_rfl) (.tmp (t := 3) (by kernel_rfl) (.tmp (t := 4) (by kernel_rfl) .nil))) ha (by kernel_rfl)) ⟨rfl, hI⟩
        · rw [if_neg hb9] at h1
          refine CodT.no' (b := decide ((bt a0 x3) < 128)) (by kernel_rfl) (by simpa using hb9) ?_
          refine CodT.skip ?_
          refine Qn.block_normal ?_
          refine Qn.then ?_
          refine CodT.regionL [0, 1, 2] (by kernel_rfl) ?_
          refine OpsT.pures (r := []) [0, 1, 2] [0, 5, 6, 7] (S' := [(0, .string a0), (5, .int .i64 (wi64 (x1 + (wi64 (((wi64 (bt a0 x3)).tmod 128) * x2))))), (6, .int .i64 (wi64 (x2 * 128))), (7, .int .i64 (wi64 (x3 + 1)))]) (by kernel_rfl) ?_
          refine OpsT.done ?_
          exact Qn.thenJ fun a ha => ⟨k, Nat.lt_succ_self k, wi64 (x1 + (wi64 (((wi64 (bt a0 x3)).tmod 128) * x2))), wi64 (x2 * 128), wi64 (x3 + 1), h1, ha.keep [0, 5, 6, 7] (by kernel_rfl), hI⟩
      · rw [if_neg hb6] at h1
        refine CodT.no' (b := x4) (by kernel_rfl) (by simpa using hb6) ?_
        refine CodT.exit ?_
        refine Qn.exit_then ?_
        refine Qn.exit_then ?_
        refine Qn.block ?_
        have e := someS h1
        subst e
        exact Qn.thenJ fun a ha => ⟨rfl, ha.keep [] (by kernel_rfl), hI⟩
  ·
    rintro a w ⟨rfl, ha, hI⟩
    try dsimp only at h0
    refine Qn.of ?_ ha
    refine Qn.then ?_
    refine CodT.seq ?_
    refine CodT.regionL [0, 1, 2] (by kernel_rfl) ?_
    refine OpsT.pures (r := []) [0, 1, 2] [2, 3, 4] (S' := [(2, .int .i64 0), (3, .string (⟨#[]⟩ : ByteArray)), (4, .bool false)]) (by kernel_rfl) ?_
    refine OpsT.done ?_
    refine Qn.then ?_
    refine CodT.ret ?_
    have e := someS h0
    subst e
    refine Qn.keep [2, 3, 4] (S' := [(2, .int .i64 0), (3, .string (⟨#[]⟩ : ByteArray)), (4, .bool false)]) (by kernel_rfl) ?_
    exact post_ret (v := .tuple #[.int .i64 0, .string (⟨#[]⟩ : ByteArray), .bool false]) (fun a ha => RunRes.run (vs := [.int .i64 0, .string (⟨#[]⟩ : ByteArray), .bool false]) (.tmp (t := 2) (by kernel_rfl) (.tmp (t := 3) (by kernel_rfl) (.tmp (t := 4) (by kernel_rfl) .nil))) ha (by kernel_rfl)) ⟨rfl, hI⟩
set_option maxRecDepth 100000 in
set_option maxHeartbeats 4000000 in
/-- cenotaph/cenotaphref15.Read -/
theorem c58 (w0 w : World) (Z : Hp) (A : HP) (hI : Inv w0 Z w A) (a0 : ByteArray) (r : ((List Ref15Entry) × (List Int) × Bool)) (h0 : ref15_Read a0 = some r) :
    Calls prog 58 #[.string a0] w (fun e w' => ∃ (A1 : Option Addr) (c1 : Nat) (A2 : Option Addr) (c2 : Nat) (Z' : Hp), Z.le Z' ∧ e = .returned (.tuple #[.agg ((([.slice A1 r.1.length c1, .slice A2 r.2.1.length c2] : List Value))).toArray, .bool r.2.2]) ∧ RdS Z' c_Ref15Entry 4 A1 c1 r.1 ∧ RdS Z' (cI .i64) 1 A2 c2 r.2.1 ∧ Inv w0 Z' w' A) := by
  have e4 := calls_intro (R := (fun e w' => ∃ (A1 : Option Addr) (c1 : Nat) (A2 : Option Addr) (c2 : Nat) (Z' : Hp), Z.le Z' ∧ e = .returned (.tuple #[.agg ((([.slice A1 r.1.length c1, .slice A2 r.2.1.length c2] : List Value))).toArray, .bool r.2.2]) ∧ RdS Z' c_Ref15Entry 4 A1 c1 r.1 ∧ RdS Z' (cI .i64) 1 A2 c2 r.2.1 ∧ Inv w0 Z' w' A)) (w := w) (args := [.string a0]) (fn := Go.Proofs.Try.f58) 111 Go.Proofs.Try.func58 (by rfl) Go.Proofs.Try.ntmps58 (by kernel_rfl)
  refine e4 ?_
  clear e4
  unfold ref15_Read at h0
  refine CodT.seq ?_
  refine CodT.regionL [0, 1] (by kernel_rfl) ?_
  refine OpsT.cons (Does.allocL (d := 2) (T := 30) ((([.slice none 0 0, .slice none 0 0] : List Value))) (by kernel_rfl) ty30 hI (by kernel_rfl) ?_)
  intro b1 w hI
  refine OpsT.pures (r := []) [1] [0, 2] (S' := [(0, .string a0), (2, .pointer (some ⟨b1, 0, none⟩))]) (by kernel_rfl) ?_
  refine OpsT.done ?_
  refine Qn.then ?_
  refine CodT.seq ?_
  refine CodT.regionL [0, 1, 2] (by kernel_rfl) ?_
  refine OpsT.pures (r := [1, 2]) [0] [0, 2, 18] (S' := [(0, .string a0), (2, .pointer (some ⟨b1, 0, none⟩)), (18, .agg ((([.slice none 0 0, .slice none 0 0] : List Value))).toArray)]) (by kernel_rfl) ?_
  refine OpsT.cons (Does.allocL (d := 4) (T := 30) ((([.slice none 0 0, .slice none 0 0] : List Value))) (by kernel_rfl) ty30 hI (by kernel_rfl) ?_)
  intro b2 w hI
  refine OpsT.cons (Does.storeLit (T := 30) (b := b2) (o := 0) (v := .agg ((([.slice none 0 0, .slice none 0 0] : List Value))).toArray) (l := (([.slice none 0 0, .slice none 0 0] : List Value))) (vs := (([.slice none 0 0, .slice none 0 0] : List Value))) (L' := (([.slice none 0 0, .slice none 0 0] : List Value))) (by kernel_rfl) ty30 hI (by kernel_rfl) (by kernel_rfl) (by kernel_rfl) (by kernel_rfl) (by kernel_rfl) ?_)
  intro w hI
  refine OpsT.done ?_
  refine Qn.then ?_
  refine CodT.seq ?_
  refine CodT.regionL [0, 1, 2, 3, 4, 5, 6, 7, 8] (by kernel_rfl) ?_
  refine OpsT.pures (r := [1, 2, 3, 4, 5, 6, 7, 8]) [0] [2, 4, 20] (S' := [(2, .pointer (some ⟨b1, 0, none⟩)), (4, .pointer (some ⟨b2, 0, none⟩)), (20, .string a0)]) (by kernel_rfl) ?_
  obtain ⟨⟨y4, y5, y6⟩, hc3, h0⟩ := bindS h0
  try dsimp only at h0
  refine OpsT.cons (Does.call (d := some 21) (n := 57) (vs := [.string a0]) (by kernel_rfl) en57 (c57 w0 w _ _ hI a0 _ hc3) ?_)
  rintro e w ⟨rfl, hI⟩
  refine ⟨_, rfl, ?_⟩
  refine OpsT.pures (r := []) [2, 3, 4, 5, 6, 7, 8] [0, 2, 4, 5, 6] (S' := [(0, .string y5), (2, .pointer (some ⟨b1, 0, none⟩)), (4, .pointer (some ⟨b2, 0, none⟩)), (5, .int .i64 y4), (6, .bool y6)]) (by kernel_rfl) ?_
  refine OpsT.done ?_
  refine Qn.then ?_
  refine CodT.seq ?_
  obtain ⟨r1, h1, h0⟩ := bindS h0
  refine CodT.meet (fun a w => ∃ (x7 : Bool), x7 = r1 ∧ Fr 111 [(0, .string y5), (2, .pointer (some ⟨b1, 0, none⟩)), (4, .pointer (some ⟨b2, 0, none⟩)), (5, .int .i64 y4), (30, .bool x7)] a ∧ Inv w0 Z w (star (pt b2 (.cells ((([.slice none 0 0, .slice none 0 0] : List Value))).toArray 30 (0, 0))) (star (pt b1 (.cells ((([.slice none 0 0, .slice none 0 0] : List Value))).toArray 30 (0, 0))) A))) ?_ ?_
  ·
    refine CodT.regionL [0, 1, 2, 3, 4, 5] (by kernel_rfl) ?_
    refine OpsT.pures (r := [3, 4, 5]) [0, 1, 2] [0, 2, 4, 5, 27] (S' := [(0, .string y5), (2, .pointer (some ⟨b1, 0, none⟩)), (4, .pointer (some ⟨b2, 0, none⟩)), (5, .int .i64 y4), (27, .bool (!y6))]) (by kernel_rfl) ?_
    by_cases hb8 : (!y6) = true
    · rw [if_pos hb8] at h1
      refine OpsT.keep [0, 2, 4, 5, 27] (S' := [(0, .string y5), (2, .pointer (some ⟨b1, 0, none⟩)), (4, .pointer (some ⟨b2, 0, none⟩)), (5, .int .i64 y4), (27, .bool true)]) (by simp only [hb8]; kernel_rfl) ?_
      refine OpsT.pures (r := []) [3, 4, 5] [0, 2, 4, 5, 30] (S' := [(0, .string y5), (2, .pointer (some ⟨b1, 0, none⟩)), (4, .pointer (some ⟨b2, 0, none⟩)), (5, .int .i64 y4), (30, .bool true)]) (by kernel_rfl) ?_
      refine OpsT.done ?_
      have e := someS h1
      subst e
      exact Qn.thenJ fun a ha => ⟨true, rfl, ha.keep [0, 2, 4, 5, 30] (by kernel_rfl), hI⟩
    · rw [if_neg hb8] at h1
      have hb8 : (!y6) = false := by simpa using hb8
      refine OpsT.keep [0, 2, 4, 5, 27] (S' := [(0, .string y5), (2, .pointer (some ⟨b1, 0, none⟩)), (4, .pointer (some ⟨b2, 0, none⟩)), (5, .int .i64 y4), (27, .bool false)]) (by simp only [hb8]; kernel_rfl) ?_
      refine OpsT.pures (r := []) [3, 4, 5] [0, 2, 4, 5, 30] (S' := [(0, .string y5), (2, .pointer (some ⟨b1, 0, none⟩)), (4, .pointer (some ⟨b2, 0, none⟩)), (5, .int .i64 y4), (30, .bool (decide (y4 > 400)))]) (by kernel_rfl) ?_
      refine OpsT.done ?_
      have e := someS h1
      subst e
      exact Qn.thenJ fun a ha => ⟨decide (y4 > 400), rfl, ha.keep [0, 2, 4, 5, 30] (by kernel_rfl), hI⟩
  ·
    rintro a w ⟨x7, rfl, ha, hI⟩
    try dsimp only at h0
    refine CodT.of ?_ ha
    by_cases hb9 : x7 = true
    · rw [if_pos hb9] at h0
      refine CodT.yes' (b := x7) (by kernel_rfl) hb9 ?_
      refine CodT.seq ?_
      refine CodT.regionL [0, 1, 2] (by kernel_rfl) ?_
      refine OpsT.cons (Does.yi (Yl.load (d := 31) (T := 30) (v := .agg ((([.slice none 0 0, .slice none 0 0] : List Value))).toArray) (by kernel_rfl) (ldBN ty30 (l := (([.slice none 0 0, .slice none 0 0] : List Value))) (o := 0) (cs := (([.slice none 0 0, .slice none 0 0] : List Value))) (ent_refl _) (by kernel_rfl) (whole _ _ (by kernel_rfl)))) hI ?_)
      have hI := hI.mono (pick2 _ _ _)
      refine OpsT.cons (Does.storeLit (T := 30) (b := b1) (o := 0) (v := .agg ((([.slice none 0 0, .slice none 0 0] : List Value))).toArray) (l := (([.slice none 0 0, .slice none 0 0] : List Value))) (vs := (([.slice none 0 0, .slice none 0 0] : List Value))) (L' := (([.slice none 0 0, .slice none 0 0] : List Value))) (by kernel_rfl) ty30 hI (by kernel_rfl) (by kernel_rfl) (by kernel_rfl) (by kernel_rfl) (by kernel_rfl) ?_)
      intro w hI
      refine OpsT.pures (r := []) [2] [2, 3] (S' := [(2, .pointer (some ⟨b1, 0, none⟩)), (3, .bool false)]) (by kernel_rfl) ?_
      refine OpsT.done ?_
      refine Qn.then ?_
      refine CodT.ret ?_
      refine Qn.ret_then ?_
      have hL10 := (ldBN ty30 (l := (([.slice none 0 0, .slice none 0 0] : List Value))) (o := 0) (cs := (([.slice none 0 0, .slice none 0 0] : List Value))) (ent_refl _) (by kernel_rfl) (whole _ _ (by kernel_rfl))) w hI
      have hI := hI.drop
      have hI := hI.drop
      have e := someS h0
      subst e
      refine Qn.keep [2, 3] (S' := [(2, .pointer (some ⟨b1, 0, none⟩)), (3, .bool false)]) (by kernel_rfl) ?_
      exact post_ret (v := .tuple #[.agg ((([.slice none 0 0, .slice none 0 0] : List Value))).toArray, .bool false]) (fun a ha => RunRes.run (vs := [.agg ((([.slice none 0 0, .slice none 0 0] : List Value))).toArray, .bool false]) (.cell (t := 2) (T := 30) (ad := ⟨b1, 0, none⟩) (by kernel_rfl) hL10 (.tmp (t := 3) (by kernel_rfl) .nil)) ha (by kernel_rfl)) ⟨none, 0, none, 0, Z, Hp.le_refl _, rfl, (RdS.nil _ _ _ _ _ (Nat.zero_le _)), (RdS.nil _ _ _ _ _ (Nat.zero_le _)), hI⟩
    · rw [if_neg hb9] at h0
      refine CodT.no' (b := x7) (by kernel_rfl) (by simpa using hb9) ?_
      refine CodT.skip ?_
      refine Qn.then ?_
      refine CodT.seq ?_
      refine CodT.seq ?_
      refine CodT.regionL [0] (by kernel_rfl) ?_
      refine OpsT.pures (r := []) [0] [0, 2, 4, 5, 7] (S' := [(0, .string y5), (2, .pointer (some ⟨b1, 0, none⟩)), (4, .pointer (some ⟨b2, 0, none⟩)), (5, .int .i64 y4), (7, .int .i64 0)]) (by kernel_rfl) ?_
      refine OpsT.done ?_
      refine Qn.then ?_
      obtain ⟨r1, h1, h0⟩ := bindS h0
      refine CodT.meet1 (fun a w => ∃ (x11 : ByteArray) (x12 : (List Ref15Entry)) (x15 : (List Int)) (A13 : Option Addr) (cp14 : Nat) (A16 : Option Addr) (cp17 : Nat), .inr (x11, x12, x15) = r1 ∧ Fr 111 [(0, .string x11), (2, .pointer (some ⟨b1, 0, none⟩)), (4, .pointer (some ⟨b2, 0, none⟩))] a ∧ Inv w0 Z w (star (ownS 69 c_Ref15Entry 4 A13 cp14 x12) (star (ownS 3 (cI .i64) 1 A16 cp17 x15) (star (pt b2 (.cells ((([.slice A13 x12.length cp14, .slice A16 x15.length cp17] : List Value))).toArray 30 (0, 0))) (star (pt b1 (.cells ((([.slice none 0 0, .slice none 0 0] : List Value))).toArray 30 (0, 0))) A))))) ?_ ?_
      ·
        refine CodT.block ?_
        have hI := ownS_nil (α := Ref15Entry) hI 69 c_Ref15Entry 4
        have hI := ownS_nil (α := Int) hI 3 (cI .i64) 1
        have hI := hI.mono (pick4 _ _ _ _ _)
        have hI := hI.mono (pick4 _ _ _ _ _)
        have hI := hI.mono (pick3 _ _ _ _)
        have hI := hI.mono (pick4 _ _ _ _ _)
        refine (fun a ha => wp_loopN (fun k a w => ∃ (x18 : ByteArray) (x19 : Int) (x20 : (List Ref15Entry)) (x23 : (List Int)) (A21 : Option Addr) (cp22 : Nat) (A24 : Option Addr) (cp25 : Nat), ref15_Read.l0 y4 k x18 x19 x20 x23 = some r1 ∧ Fr 111 [(0, .string x18), (2, .pointer (some ⟨b1, 0, none⟩)), (4, .pointer (some ⟨b2, 0, none⟩)), (5, .int .i64 y4), (7, .int .i64 x19)] a ∧ Inv w0 Z w (star (ownS 69 c_Ref15Entry 4 A21 cp22 x20) (star (ownS 3 (cI .i64) 1 A24 cp25 x23) (star (pt b2 (.cells ((([.slice A21 x20.length cp22, .slice A24 x23.length cp25] : List Value))).toArray 30 (0, 0))) (star (pt b1 (.cells ((([.slice none 0 0, .slice none 0 0] : List Value))).toArray 30 (0, 0))) A))))) ?_ FU a w ⟨y5, 0, ([] : List Ref15Entry), ([] : List Int), none, 0, none, 0, h1, ha.keep [0, 2, 4, 5, 7] (by kernel_rfl), hI⟩)
        clear h1 hI
        rintro k a w ⟨x18, x19, x20, x23, A21, cp22, A24, cp25, h1, ha, hI⟩
        rcases k with _ | k
        · cases h1
        simp only [ref15_Read.l0] at h1
        refine CodT.of ?_ ha
        refine CodT.seq ?_
        refine CodT.seq ?_
        refine CodT.regionL [0, 1, 2] (by kernel_rfl) ?_
        refine OpsT.pures (r := []) [0, 1, 2] [0, 2, 4, 5, 7, 34] (S' := [(0, .string x18), (2, .pointer (some ⟨b1, 0, none⟩)), (4, .pointer (some ⟨b2, 0, none⟩)), (5, .int .i64 y4), (7, .int .i64 x19), (34, .bool (decide (x19 < y4)))]) (by kernel_rfl) ?_
        refine OpsT.done ?_
        refine Qn.then ?_
        by_cases hb26 : (decide (x19 < y4)) = true
        · rw [if_pos hb26] at h1
          refine CodT.yes' (b := decide (x19 < y4)) (by kernel_rfl) hb26 ?_
          refine CodT.skip ?_
          refine Qn.then ?_
          refine CodT.seq ?_
          refine CodT.block ?_
          refine CodT.seq ?_
          refine CodT.regionL [0] (by kernel_rfl) ?_
          refine OpsT.cons (Does.allocL (d := 8) (T := 124) (cA (Value.int .i64) (List.replicate 4 (0 : Int))) (by kernel_rfl) ty124 hI (by kernel_rfl) ?_)
          intro b27 w hI
          refine OpsT.done ?_
          refine Qn.then ?_
          refine CodT.seq ?_
          refine CodT.seq ?_
          refine CodT.regionL [0] (by kernel_rfl) ?_
          refine OpsT.pures (r := []) [0] [0, 2, 4, 5, 7, 8, 9] (S' := [(0, .string x18), (2, .pointer (some ⟨b1, 0, none⟩)), (4, .pointer (some ⟨b2, 0, none⟩)), (5, .int .i64 y4), (7, .int .i64 x19), (8, .pointer (some ⟨b27, 0, none⟩)), (9, .int .i64 0)]) (by kernel_rfl) ?_
          refine OpsT.done ?_
          refine Qn.then ?_
          obtain ⟨r2, h2, h1⟩ := bindS h1
          refine CodT.meet1 (fun a w => ∃ (x28 : ByteArray) (x29 : (List Int)), .inr (x28, x29) = r2 ∧ Fr 111 [(0, .string x28), (2, .pointer (some ⟨b1, 0, none⟩)), (4, .pointer (some ⟨b2, 0, none⟩)), (5, .int .i64 y4), (7, .int .i64 x19), (8, .pointer (some ⟨b27, 0, none⟩))] a ∧ Inv w0 Z w (star (pt b27 (.cells (cA (Value.int .i64) x29).toArray 124 (0, 0))) (star (pt b2 (.cells ((([.slice A21 x20.length cp22, .slice A24 x23.length cp25] : List Value))).toArray 30 (0, 0))) (star (pt b1 (.cells ((([.slice none 0 0, .slice none 0 0] : List Value))).toArray 30 (0, 0))) (star (ownS 69 c_Ref15Entry 4 A21 cp22 x20) (star (ownS 3 (cI .i64) 1 A24 cp25 x23) A))))) ∧ x29.length = 4) ?_ ?_
          ·
            refine CodT.block ?_
            have hI := hI.mono (pick3 _ _ _ _)
            have hI := hI.mono (pick3 _ _ _ _)
            have hI := hI.mono (pick5 _ _ _ _ _ _)
            have hI := hI.mono (pick5 _ _ _ _ _ _)
            have hI := hI.mono (pick5 _ _ _ _ _ _)
            refine (fun a ha => wp_loopN (fun k a w => ∃ (x31 : ByteArray) (x32 : Int) (x33 : (List Int)), ref15_Read.l1 k x31 x32 x33 = some r2 ∧ Fr 111 [(0, .string x31), (2, .pointer (some ⟨b1, 0, none⟩)), (4, .pointer (some ⟨b2, 0, none⟩)), (5, .int .i64 y4), (7, .int .i64 x19), (8, .pointer (some ⟨b27, 0, none⟩)), (9, .int .i64 x32)] a ∧ Inv w0 Z w (star (pt b27 (.cells (cA (Value.int .i64) x33).toArray 124 (0, 0))) (star (pt b2 (.cells ((([.slice A21 x20.length cp22, .slice A24 x23.length cp25] : List Value))).toArray 30 (0, 0))) (star (pt b1 (.cells ((([.slice none 0 0, .slice none 0 0] : List Value))).toArray 30 (0, 0))) (star (ownS 69 c_Ref15Entry 4 A21 cp22 x20) (star (ownS 3 (cI .i64) 1 A24 cp25 x23) A))))) ∧ x33.length = 4) ?_ FU a w ⟨x18, 0, (List.replicate 4 (0 : Int)), h2, ha.keep [0, 2, 4, 5, 7, 8, 9] (by kernel_rfl), hI, (by kernel_rfl)⟩)
            clear h2 hI
            rintro k a w ⟨x31, x32, x33, h2, ha, hI, hl34⟩
            rcases k with _ | k
            · cases h2
            simp only [ref15_Read.l1] at h2
            refine CodT.of ?_ ha
            refine CodT.seq ?_
            refine CodT.seq ?_
            refine CodT.regionL [0, 1] (by kernel_rfl) ?_
            refine OpsT.pures (r := []) [0, 1] [0, 2, 4, 5, 7, 8, 9, 38] (S' := [(0, .string x31), (2, .pointer (some ⟨b1, 0, none⟩)), (4, .pointer (some ⟨b2, 0, none⟩)), (5, .int .i64 y4), (7, .int .i64 x19), (8, .pointer (some ⟨b27, 0, none⟩)), (9, .int .i64 x32), (38, .bool (decide (x32 < 4)))]) (by kernel_rfl) ?_
            refine OpsT.done ?_
            refine Qn.then ?_
            by_cases hb35 : (decide (x32 < 4)) = true
            · rw [if_pos hb35] at h2
              refine CodT.yes' (b := decide (x32 < 4)) (by kernel_rfl) hb35 ?_
              refine CodT.skip ?_
              refine Qn.then ?_
              refine CodT.seq ?_
              refine CodT.block ?_
              refine CodT.seq ?_
              refine CodT.regionL [0, 1, 2, 3, 4, 5, 6, 7, 8] (by kernel_rfl) ?_
              refine OpsT.pures (r := [1, 2, 3, 4, 5, 6, 7, 8]) [0] [2, 4, 5, 7, 8, 9, 42] (S' := [(2, .pointer (some ⟨b1, 0, none⟩)), (4, .pointer (some ⟨b2, 0, none⟩)), (5, .int .i64 y4), (7, .int .i64 x19), (8, .pointer (some ⟨b27, 0, none⟩)), (9, .int .i64 x32), (42, .string x31)]) (by kernel_rfl) ?_
              obtain ⟨⟨y37, y38, y39⟩, hc36, h2⟩ := bindS h2
              try dsimp only at h2
              refine OpsT.cons (Does.call (d := some 43) (n := 57) (vs := [.string x31]) (by kernel_rfl) en57 (c57 w0 w _ _ hI x31 _ hc36) ?_)
              rintro e w ⟨rfl, hI⟩
              refine ⟨_, rfl, ?_⟩
              refine OpsT.pures (r := []) [2, 3, 4, 5, 6, 7, 8] [2, 4, 5, 7, 8, 9, 10, 11, 12] (S' := [(2, .pointer (some ⟨b1, 0, none⟩)), (4, .pointer (some ⟨b2, 0, none⟩)), (5, .int .i64 y4), (7, .int .i64 x19), (8, .pointer (some ⟨b27, 0, none⟩)), (9, .int .i64 x32), (10, .int .i64 y37), (11, .string y38), (12, .bool y39)]) (by kernel_rfl) ?_
              refine OpsT.done ?_
              refine Qn.then ?_
              refine CodT.seq ?_
              refine CodT.seq ?_
              refine CodT.regionL [0, 1] (by kernel_rfl) ?_
              refine OpsT.pures (r := []) [0, 1] [2, 4, 5, 7, 8, 9, 10, 11, 48] (S' := [(2, .pointer (some ⟨b1, 0, none⟩)), (4, .pointer (some ⟨b2, 0, none⟩)), (5, .int .i64 y4), (7, .int .i64 x19), (8, .pointer (some ⟨b27, 0, none⟩)), (9, .int .i64 x32), (10, .int .i64 y37), (11, .string y38), (48, .bool (!y39))]) (by kernel_rfl) ?_
              refine OpsT.done ?_
              refine Qn.then ?_
              by_cases hb40 : (!y39) = true
              · rw [if_pos hb40] at h2
                refine CodT.yes' (b := !y39) (by kernel_rfl) hb40 ?_
                refine CodT.seq ?_
                refine CodT.regionL [0, 1, 2] (by kernel_rfl) ?_
                refine OpsT.pures (r := [1, 2]) [0] [2, 49] (S' := [(2, .pointer (some ⟨b1, 0, none⟩)), (49, .agg ((([.slice none 0 0, .slice none 0 0] : List Value))).toArray)]) (by kernel_rfl) ?_
                have hI := hI.mono (pick3 _ _ _ _)
                refine OpsT.cons (Does.storeLit (T := 30) (b := b1) (o := 0) (v := .agg ((([.slice none 0 0, .slice none 0 0] : List Value))).toArray) (l := (([.slice none 0 0, .slice none 0 0] : List Value))) (vs := (([.slice none 0 0, .slice none 0 0] : List Value))) (L' := (([.slice none 0 0, .slice none 0 0] : List Value))) (by kernel_rfl) ty30 hI (by kernel_rfl) (by kernel_rfl) (by kernel_rfl) (by kernel_rfl) (by kernel_rfl) ?_)
                intro w hI
                refine OpsT.pures (r := []) [2] [2, 3] (S' := [(2, .pointer (some ⟨b1, 0, none⟩)), (3, .bool false)]) (by kernel_rfl) ?_
                refine OpsT.done ?_
                refine Qn.then ?_
                refine CodT.ret ?_
                refine Qn.ret_then ?_
                refine Qn.block_ret ?_
                refine Qn.ret_then ?_
                refine Qn.ret_then ?_
                refine Qn.block_ret ?_
                refine Qn.ret_then ?_
                refine Qn.ret_then ?_
                refine Qn.block_ret ?_
                refine Qn.ret_then ?_
                refine Qn.ret_then ?_
                refine Qn.block_ret ?_
                refine Qn.ret_then ?_
                refine Qn.ret_then ?_
                have hL41 := (ldBN ty30 (l := (([.slice none 0 0, .slice none 0 0] : List Value))) (o := 0) (cs := (([.slice none 0 0, .slice none 0 0] : List Value))) (ent_refl _) (by kernel_rfl) (whole _ _ (by kernel_rfl))) w hI
                have hI := hI.drop
                have hI := hI.drop
                have hI := hI.drop
                have hI := hI.drop
                have hI := hI.drop
                have e := someS h2
                subst e
                try dsimp only at h1
                have e := someS h1
                subst e
                try dsimp only at h0
                have e := someS h0
                subst e
                refine Qn.keep [2, 3] (S' := [(2, .pointer (some ⟨b1, 0, none⟩)), (3, .bool false)]) (by kernel_rfl) ?_
                exact post_ret (v := .tuple #[.agg ((([.slice none 0 0, .slice none 0 0] : List Value))).toArray, .bool false]) (fun a ha => RunRes.run (vs := [.agg ((([.slice none 0 0, .slice none 0 0] : List Value))).toArray, .bool false]) (.cell (t := 2) (T := 30) (ad := ⟨b1, 0, none⟩) (by kernel_rfl) hL41 (.tmp (t := 3) (by kernel_rfl) .nil)) ha (by kernel_rfl)) ⟨none, 0, none, 0, Z, Hp.le_refl _, rfl, (RdS.nil _ _ _ _ _ (Nat.zero_le _)), (RdS.nil _ _ _ _ _ (Nat.zero_le _)), hI⟩
              · rw [if_neg hb40] at h2
                refine CodT.no' (b := !y39) (by kernel_rfl) (by simpa using hb40) ?_
                refine CodT.skip ?_
                refine Qn.then ?_
                refine CodT.seq ?_
                refine CodT.regionL [0, 1, 2, 3] (by kernel_rfl) ?_
                refine OpsT.pures (r := [2, 3]) [0, 1] [2, 4, 5, 7, 8, 9, 11, 50, 51] (S' := [(2, .pointer (some ⟨b1, 0, none⟩)), (4, .pointer (some ⟨b2, 0, none⟩)), (5, .int .i64 y4), (7, .int .i64 x19), (8, .pointer (some ⟨b27, 0, none⟩)), (9, .int .i64 x32), (11, .string y38), (50, .int .i64 x32), (51, .int .i64 y37)]) (by kernel_rfl) ?_
                obtain ⟨hg42, h2⟩ := guardS h2
                refine OpsT.cons (Does.yi (Yl.indexArr (d := 52) (T := 124) (k := .i64) (j := x32) (g := b27) (o := 0) (by kernel_rfl) Go.Proofs.Try.underlying124 ty3 hg42.1 hg42.2) hI ?_)
                refine OpsT.cons (Does.storeArr (e := (Value.int .i64)) (xs := x33) (u := y37) (T := 3) (b := b27) (j := x32) (by kernel_rfl) ty3 hI (by kernel_rfl) (by kernel_rfl) hg42.1 (by have := And.intro hl34 hg42.2; omega) ?_)
                intro w hI
                refine OpsT.done ?_
                refine Qn.then ?_
                refine CodT.regionL [0, 1] (by kernel_rfl) ?_
                refine OpsT.pures (r := []) [0, 1] [0, 2, 4, 5, 7, 8, 9] (S' := [(0, .string y38), (2, .pointer (some ⟨b1, 0, none⟩)), (4, .pointer (some ⟨b2, 0, none⟩)), (5, .int .i64 y4), (7, .int .i64 x19), (8, .pointer (some ⟨b27, 0, none⟩)), (9, .int .i64 x32)]) (by kernel_rfl) ?_
                refine OpsT.done ?_
                refine Qn.block_normal ?_
                refine Qn.then ?_
                refine CodT.regionL [0, 1, 2] (by kernel_rfl) ?_
                refine OpsT.pures (r := []) [0, 1, 2] [0, 2, 4, 5, 7, 8, 9] (S' := [(0, .string y38), (2, .pointer (some ⟨b1, 0, none⟩)), (4, .pointer (some ⟨b2, 0, none⟩)), (5, .int .i64 y4), (7, .int .i64 x19), (8, .pointer (some ⟨b27, 0, none⟩)), (9, .int .i64 (wi64 (x32 + 1)))]) (by kernel_rfl) ?_
                refine OpsT.done ?_
                exact Qn.thenJ fun a ha => ⟨k, Nat.lt_succ_self k, y38, wi64 (x32 + 1), st x33 x32 y37, h2, ha.keep [0, 2, 4, 5, 7, 8, 9] (by kernel_rfl), hI, ((st_length _ _ _).trans hl34)⟩
            · rw [if_neg hb35] at h2
              refine CodT.no' (b := decide (x32 < 4)) (by kernel_rfl) (by simpa using hb35) ?_
              refine CodT.exit ?_
              refine Qn.exit_then ?_
              refine Qn.exit_then ?_
              refine Qn.block ?_
              have e := someS h2
              subst e
              exact Qn.thenJ fun a ha => ⟨x31, x33, rfl, ha.keep [0, 2, 4, 5, 7, 8] (by kernel_rfl), hI, hl34⟩
          ·
            rintro a w ⟨x28, x29, rfl, ha, hI, hl30⟩
            try dsimp only at h1
            refine Qn.of ?_ ha
            refine Qn.then ?_
            refine CodT.regionL [0, 1, 2, 3, 4, 5, 6, 7, 8, 9, 10, 11, 12, 13, 14] (by kernel_rfl) ?_
            refine OpsT.pures (r := [1, 2, 3, 4, 5, 6, 7, 8, 9, 10, 11, 12, 13, 14]) [0] [0, 2, 4, 5, 7, 8, 54] (S' := [(0, .string x28), (2, .pointer (some ⟨b1, 0, none⟩)), (4, .pointer (some ⟨b2, 0, none⟩)), (5, .int .i64 y4), (7, .int .i64 x19), (8, .pointer (some ⟨b27, 0, none⟩)), (54, .pointer (some ⟨b2, 0, none⟩))]) (by kernel_rfl) ?_
            refine OpsT.cons (Does.yi (Yl.load (d := 55) (T := 28) (v := .slice A21 x20.length cp22) (by kernel_rfl) (ldB ty28 (l := (([.slice A21 x20.length cp22, .slice A24 x23.length cp25] : List Value))) (o := 0) (v := .slice A21 x20.length cp22) (pick2 _ _ _) (by kernel_rfl))) hI ?_)
            refine OpsT.pures (r := [3, 4, 5, 6, 7, 8, 9, 10, 11, 12, 13, 14]) [2] [0, 2, 4, 5, 7, 8, 55, 56] (S' := [(0, .string x28), (2, .pointer (some ⟨b1, 0, none⟩)), (4, .pointer (some ⟨b2, 0, none⟩)), (5, .int .i64 y4), (7, .int .i64 x19), (8, .pointer (some ⟨b27, 0, none⟩)), (55, .slice A21 x20.length cp22), (56, .pointer (some ⟨b27, 0, none⟩))]) (by kernel_rfl) ?_
            refine OpsT.cons (Does.yi (Yl.load (d := 57) (T := 3) (v := .int .i64 (gt x29 0)) (by kernel_rfl) (ldB ty3 (l := cA (Value.int .i64) x29) (o := 0) (v := .int .i64 (gt x29 0)) (ent_refl _) (arr_getC _ _ 0 hl30 (by kernel_rfl)))) hI ?_)
            refine OpsT.pures (r := [5, 6, 7, 8, 9, 10, 11, 12, 13, 14]) [4] [0, 2, 4, 5, 7, 8, 55, 57, 58] (S' := [(0, .string x28), (2, .pointer (some ⟨b1, 0, none⟩)), (4, .pointer (some ⟨b2, 0, none⟩)), (5, .int .i64 y4), (7, .int .i64 x19), (8, .pointer (some ⟨b27, 0, none⟩)), (55, .slice A21 x20.length cp22), (57, .int .i64 (gt x29 0)), (58, .pointer (some ⟨b27, 1, none⟩))]) (by kernel_rfl) ?_
            refine OpsT.cons (Does.yi (Yl.load (d := 59) (T := 3) (v := .int .i64 (gt x29 1)) (by kernel_rfl) (ldB ty3 (l := cA (Value.int .i64) x29) (o := 1) (v := .int .i64 (gt x29 1)) (ent_refl _) (arr_getC _ _ 1 hl30 (by kernel_rfl)))) hI ?_)
            refine OpsT.pures (r := [7, 8, 9, 10, 11, 12, 13, 14]) [6] [0, 2, 4, 5, 7, 8, 55, 57, 59, 60] (S' := [(0, .string x28), (2, .pointer (some ⟨b1, 0, none⟩)), (4, .pointer (some ⟨b2, 0, none⟩)), (5, .int .i64 y4), (7, .int .i64 x19), (8, .pointer (some ⟨b27, 0, none⟩)), (55, .slice A21 x20.length cp22), (57, .int .i64 (gt x29 0)), (59, .int .i64 (gt x29 1)), (60, .pointer (some ⟨b27, 2, none⟩))]) (by kernel_rfl) ?_
            refine OpsT.cons (Does.yi (Yl.load (d := 61) (T := 3) (v := .int .i64 (gt x29 2)) (by kernel_rfl) (ldB ty3 (l := cA (Value.int .i64) x29) (o := 2) (v := .int .i64 (gt x29 2)) (ent_refl _) (arr_getC _ _ 2 hl30 (by kernel_rfl)))) hI ?_)
            refine OpsT.pures (r := [9, 10, 11, 12, 13, 14]) [8] [0, 2, 4, 5, 7, 55, 57, 59, 61, 62] (S' := [(0, .string x28), (2, .pointer (some ⟨b1, 0, none⟩)), (4, .pointer (some ⟨b2, 0, none⟩)), (5, .int .i64 y4), (7, .int .i64 x19), (55, .slice A21 x20.length cp22), (57, .int .i64 (gt x29 0)), (59, .int .i64 (gt x29 1)), (61, .int .i64 (gt x29 2)), (62, .pointer (some ⟨b27, 3, none⟩))]) (by kernel_rfl) ?_
            refine OpsT.cons (Does.yi (Yl.load (d := 63) (T := 3) (v := .int .i64 (gt x29 3)) (by kernel_rfl) (ldB ty3 (l := cA (Value.int .i64) x29) (o := 3) (v := .int .i64 (gt x29 3)) (ent_refl _) (arr_getC _ _ 3 hl30 (by kernel_rfl)))) hI ?_)
            refine OpsT.pures (r := [11, 12, 13, 14]) [10] [0, 2, 4, 5, 7, 55, 64] (S' := [(0, .string x28), (2, .pointer (some ⟨b1, 0, none⟩)), (4, .pointer (some ⟨b2, 0, none⟩)), (5, .int .i64 y4), (7, .int .i64 x19), (55, .slice A21 x20.length cp22), (64, .agg (c_Ref15Entry (Ref15Entry.mk (gt x29 0) (gt x29 1) (gt x29 2) (gt x29 3))).toArray)]) (by kernel_rfl) ?_
            refine OpsT.cons (Does.buildSlice (en := c_Ref15Entry) (d := 65) (n := 1) (T := 28) (ps := [(0, .agg (c_Ref15Entry (Ref15Entry.mk (gt x29 0) (gt x29 1) (gt x29 2) (gt x29 3))).toArray)]) ([(Ref15Entry.mk (gt x29 0) (gt x29 1) (gt x29 2) (gt x29 3))] : List Ref15Entry) (by kernel_rfl) Go.Proofs.Try.underlying28 ty69 (by kernel_rfl) (by kernel_rfl) (by kernel_rfl) (by kernel_rfl) (len_all (fun _ => rfl)) hI ?_)
            intro b43 w hI
            obtain ⟨hg44, h1⟩ := guardS h1
            have hI := hI.mono (pick5 _ _ _ _ _ _)
            refine OpsT.cons (Does.append (d := 66) (t := 28) (tx := 28) (ty := 28) (ys := x20) (zs := ([(Ref15Entry.mk (gt x29 0) (gt x29 1) (gt x29 2) (gt x29 3))] : List Ref15Entry)) (x := .slice (some ⟨b43, 0, none⟩) (([(Ref15Entry.mk (gt x29 0) (gt x29 1) (gt x29 2) (gt x29 3))] : List Ref15Entry).length) 1) (by kernel_rfl) Go.Proofs.Try.underlying28 ty69 (by kernel_rfl) hI (src_own Go.Proofs.Try.underlying28 (hI.mono (pick2 _ _ _)) (one_flat _ (fun _ => rfl))) (ownS_facts (hI.mono (pick2 _ _ _))).2.2 (by unfold LIM at hg44; omega) hg44 ?_)
            intro A45 cp46 w hI
            refine OpsT.pures (r := [14]) [13] [0, 2, 4, 5, 7, 66, 67] (S' := [(0, .string x28), (2, .pointer (some ⟨b1, 0, none⟩)), (4, .pointer (some ⟨b2, 0, none⟩)), (5, .int .i64 y4), (7, .int .i64 x19), (66, .slice A45 ((x20 ++ ([(Ref15Entry.mk (gt x29 0) (gt x29 1) (gt x29 2) (gt x29 3))] : List Ref15Entry)).length) cp46), (67, .pointer (some ⟨b2, 0, none⟩))]) (by kernel_rfl) ?_
            have hI := hI.mono (pick4 _ _ _ _ _)
            refine OpsT.cons (Does.storeLit (T := 28) (b := b2) (o := 0) (v := .slice A45 ((x20 ++ ([(Ref15Entry.mk (gt x29 0) (gt x29 1) (gt x29 2) (gt x29 3))] : List Ref15Entry)).length) cp46) (l := (([.slice A21 x20.length cp22, .slice A24 x23.length cp25] : List Value))) (vs := ([.slice A45 ((x20 ++ ([(Ref15Entry.mk (gt x29 0) (gt x29 1) (gt x29 2) (gt x29 3))] : List Ref15Entry)).length) cp46] : List Value)) (L' := (([.slice A45 ((x20 ++ ([(Ref15Entry.mk (gt x29 0) (gt x29 1) (gt x29 2) (gt x29 3))] : List Ref15Entry)).length) cp46, .slice A24 x23.length cp25] : List Value))) (by kernel_rfl) ty28 hI (by kernel_rfl) (by kernel_rfl) (by kernel_rfl) (by kernel_rfl) (by kernel_rfl) ?_)
            intro w hI
            refine OpsT.done ?_
            refine Qn.block_normal ?_
            refine Qn.then ?_
            refine CodT.regionL [0, 1, 2] (by kernel_rfl) ?_
            refine OpsT.pures (r := []) [0, 1, 2] [0, 2, 4, 5, 7] (S' := [(0, .string x28), (2, .pointer (some ⟨b1, 0, none⟩)), (4, .pointer (some ⟨b2, 0, none⟩)), (5, .int .i64 y4), (7, .int .i64 (wi64 (x19 + 1)))]) (by kernel_rfl) ?_
            refine OpsT.done ?_
            have hI := hI.mono (pick3 _ _ _ _)
            have hI := hI.drop
            have hI := hI.mono (pick3 _ _ _ _)
            have hI := hI.drop
            have hI := hI.mono (pick3 _ _ _ _)
            have hI := hI.mono (pick2 _ _ _)
            have hI := hI.mono (pick4 _ _ _ _ _)
            have hI := hI.mono (pick4 _ _ _ _ _)
            exact Qn.thenJ fun a ha => ⟨k, Nat.lt_succ_self k, x28, wi64 (x19 + 1), x20 ++ ([(Ref15Entry.mk (gt x29 0) (gt x29 1) (gt x29 2) (gt x29 3))] : List Ref15Entry), x23, A45, cp46, A24, cp25, h1, ha.keep [0, 2, 4, 5, 7] (by kernel_rfl), hI⟩
        · rw [if_neg hb26] at h1
          refine CodT.no' (b := decide (x19 < y4)) (by kernel_rfl) (by simpa using hb26) ?_
          refine CodT.exit ?_
          refine Qn.exit_then ?_
          refine Qn.exit_then ?_
          refine Qn.block ?_
          have e := someS h1
          subst e
          exact Qn.thenJ fun a ha => ⟨x18, x20, x23, A21, cp22, A24, cp25, rfl, ha.keep [0, 2, 4] (by kernel_rfl), hI⟩
      ·
        rintro a w ⟨x11, x12, x15, A13, cp14, A16, cp17, rfl, ha, hI⟩
        try dsimp only at h0
        refine Qn.of ?_ ha
        refine Qn.then ?_
        refine CodT.seq ?_
        refine CodT.regionL [0, 1, 2, 3, 4, 5, 6, 7, 8] (by kernel_rfl) ?_
        refine OpsT.pures (r := [1, 2, 3, 4, 5, 6, 7, 8]) [0] [2, 4, 69] (S' := [(2, .pointer (some ⟨b1, 0, none⟩)), (4, .pointer (some ⟨b2, 0, none⟩)), (69, .string x11)]) (by kernel_rfl) ?_
        obtain ⟨⟨y48, y49, y50⟩, hc47, h0⟩ := bindS h0
        try dsimp only at h0
        refine OpsT.cons (Does.call (d := some 70) (n := 57) (vs := [.string x11]) (by kernel_rfl) en57 (c57 w0 w _ _ hI x11 _ hc47) ?_)
        rintro e w ⟨rfl, hI⟩
        refine ⟨_, rfl, ?_⟩
        refine OpsT.pures (r := []) [2, 3, 4, 5, 6, 7, 8] [0, 2, 4, 6, 13] (S' := [(0, .string y49), (2, .pointer (some ⟨b1, 0, none⟩)), (4, .pointer (some ⟨b2, 0, none⟩)), (6, .bool y50), (13, .int .i64 y48)]) (by kernel_rfl) ?_
        refine OpsT.done ?_
        refine Qn.then ?_
        refine CodT.seq ?_
        obtain ⟨r1, h1, h0⟩ := bindS h0
        refine CodT.meet (fun a w => ∃ (x51 : Bool), x51 = r1 ∧ Fr 111 [(0, .string y49), (2, .pointer (some ⟨b1, 0, none⟩)), (4, .pointer (some ⟨b2, 0, none⟩)), (13, .int .i64 y48), (79, .bool x51)] a ∧ Inv w0 Z w (star (pt b2 (.cells ((([.slice A13 x12.length cp14, .slice A16 x15.length cp17] : List Value))).toArray 30 (0, 0))) (star (pt b1 (.cells ((([.slice none 0 0, .slice none 0 0] : List Value))).toArray 30 (0, 0))) (star (ownS 69 c_Ref15Entry 4 A13 cp14 x12) (star (ownS 3 (cI .i64) 1 A16 cp17 x15) A))))) ?_ ?_
        ·
          refine CodT.regionL [0, 1, 2, 3, 4, 5] (by kernel_rfl) ?_
          refine OpsT.pures (r := [3, 4, 5]) [0, 1, 2] [0, 2, 4, 13, 76] (S' := [(0, .string y49), (2, .pointer (some ⟨b1, 0, none⟩)), (4, .pointer (some ⟨b2, 0, none⟩)), (13, .int .i64 y48), (76, .bool (!y50))]) (by kernel_rfl) ?_
          by_cases hb52 : (!y50) = true
          · rw [if_pos hb52] at h1
            refine OpsT.keep [0, 2, 4, 13, 76] (S' := [(0, .string y49), (2, .pointer (some ⟨b1, 0, none⟩)), (4, .pointer (some ⟨b2, 0, none⟩)), (13, .int .i64 y48), (76, .bool true)]) (by simp only [hb52]; kernel_rfl) ?_
            refine OpsT.pures (r := []) [3, 4, 5] [0, 2, 4, 13, 79] (S' := [(0, .string y49), (2, .pointer (some ⟨b1, 0, none⟩)), (4, .pointer (some ⟨b2, 0, none⟩)), (13, .int .i64 y48), (79, .bool true)]) (by kernel_rfl) ?_
            refine OpsT.done ?_
            have hI := hI.mono (pick2 _ _ _)
            have hI := hI.mono (pick2 _ _ _)
            have hI := hI.mono (pick4 _ _ _ _ _)
            have hI := hI.mono (pick4 _ _ _ _ _)
            have e := someS h1
            subst e
            exact Qn.thenJ fun a ha => ⟨true, rfl, ha.keep [0, 2, 4, 13, 79] (by kernel_rfl), hI⟩
          · rw [if_neg hb52] at h1
            have hb52 : (!y50) = false := by simpa using hb52
            refine OpsT.keep [0, 2, 4, 13, 76] (S' := [(0, .string y49), (2, .pointer (some ⟨b1, 0, none⟩)), (4, .pointer (some ⟨b2, 0, none⟩)), (13, .int .i64 y48), (76, .bool false)]) (by simp only [hb52]; kernel_rfl) ?_
            refine OpsT.pures (r := []) [3, 4, 5] [0, 2, 4, 13, 79] (S' := [(0, .string y49), (2, .pointer (some ⟨b1, 0, none⟩)), (4, .pointer (some ⟨b2, 0, none⟩)), (13, .int .i64 y48), (79, .bool (decide (y48 > 100)))]) (by kernel_rfl) ?_
            refine OpsT.done ?_
            have hI := hI.mono (pick2 _ _ _)
            have hI := hI.mono (pick2 _ _ _)
            have hI := hI.mono (pick4 _ _ _ _ _)
            have hI := hI.mono (pick4 _ _ _ _ _)
            have e := someS h1
            subst e
            exact Qn.thenJ fun a ha => ⟨decide (y48 > 100), rfl, ha.keep [0, 2, 4, 13, 79] (by kernel_rfl), hI⟩
        ·
          rintro a w ⟨x51, rfl, ha, hI⟩
          try dsimp only at h0
          refine CodT.of ?_ ha
          by_cases hb53 : x51 = true
          · rw [if_pos hb53] at h0
            refine CodT.yes' (b := x51) (by kernel_rfl) hb53 ?_
            refine CodT.seq ?_
            refine CodT.regionL [0, 1, 2] (by kernel_rfl) ?_
            refine OpsT.pures (r := [1, 2]) [0] [2, 80] (S' := [(2, .pointer (some ⟨b1, 0, none⟩)), (80, .agg ((([.slice none 0 0, .slice none 0 0] : List Value))).toArray)]) (by kernel_rfl) ?_
            have hI := hI.mono (pick2 _ _ _)
            refine OpsT.cons (Does.storeLit (T := 30) (b := b1) (o := 0) (v := .agg ((([.slice none 0 0, .slice none 0 0] : List Value))).toArray) (l := (([.slice none 0 0, .slice none 0 0] : List Value))) (vs := (([.slice none 0 0, .slice none 0 0] : List Value))) (L' := (([.slice none 0 0, .slice none 0 0] : List Value))) (by kernel_rfl) ty30 hI (by kernel_rfl) (by kernel_rfl) (by kernel_rfl) (by kernel_rfl) (by kernel_rfl) ?_)
            intro w hI
            refine OpsT.pures (r := []) [2] [2, 3] (S' := [(2, .pointer (some ⟨b1, 0, none⟩)), (3, .bool false)]) (by kernel_rfl) ?_
            refine OpsT.done ?_
            refine Qn.then ?_
            refine CodT.ret ?_
            refine Qn.ret_then ?_
            have hL54 := (ldBN ty30 (l := (([.slice none 0 0, .slice none 0 0] : List Value))) (o := 0) (cs := (([.slice none 0 0, .slice none 0 0] : List Value))) (ent_refl _) (by kernel_rfl) (whole _ _ (by kernel_rfl))) w hI
            have hI := hI.drop
            have hI := hI.drop
            have hI := hI.drop
            have hI := hI.drop
            have e := someS h0
            subst e
            refine Qn.keep [2, 3] (S' := [(2, .pointer (some ⟨b1, 0, none⟩)), (3, .bool false)]) (by kernel_rfl) ?_
            exact post_ret (v := .tuple #[.agg ((([.slice none 0 0, .slice none 0 0] : List Value))).toArray, .bool false]) (fun a ha => RunRes.run (vs := [.agg ((([.slice none 0 0, .slice none 0 0] : List Value))).toArray, .bool false]) (.cell (t := 2) (T := 30) (ad := ⟨b1, 0, none⟩) (by kernel_rfl) hL54 (.tmp (t := 3) (by kernel_rfl) .nil)) ha (by kernel_rfl)) ⟨none, 0, none, 0, Z, Hp.le_refl _, rfl, (RdS.nil _ _ _ _ _ (Nat.zero_le _)), (RdS.nil _ _ _ _ _ (Nat.zero_le _)), hI⟩
          · rw [if_neg hb53] at h0
            refine CodT.no' (b := x51) (by kernel_rfl) (by simpa using hb53) ?_
            refine CodT.skip ?_
            refine Qn.then ?_
            refine CodT.seq ?_
            refine CodT.seq ?_
            refine CodT.regionL [0] (by kernel_rfl) ?_
            refine OpsT.pures (r := []) [0] [0, 2, 4, 13, 14] (S' := [(0, .string y49), (2, .pointer (some ⟨b1, 0, none⟩)), (4, .pointer (some ⟨b2, 0, none⟩)), (13, .int .i64 y48), (14, .int .i64 0)]) (by kernel_rfl) ?_
            refine OpsT.done ?_
            refine Qn.then ?_
            obtain ⟨r1, h1, h0⟩ := bindS h0
            refine CodT.meet1 (fun a w => ∃ (x55 : ByteArray) (x56 : (List Ref15Entry)) (x59 : (List Int)) (A57 : Option Addr) (cp58 : Nat) (A60 : Option Addr) (cp61 : Nat), .inr (x55, x56, x59) = r1 ∧ Fr 111 [(0, .string x55), (2, .pointer (some ⟨b1, 0, none⟩)), (4, .pointer (some ⟨b2, 0, none⟩))] a ∧ Inv w0 Z w (star (ownS 69 c_Ref15Entry 4 A57 cp58 x56) (star (ownS 3 (cI .i64) 1 A60 cp61 x59) (star (pt b2 (.cells ((([.slice A57 x56.length cp58, .slice A60 x59.length cp61] : List Value))).toArray 30 (0, 0))) (star (pt b1 (.cells ((([.slice none 0 0, .slice none 0 0] : List Value))).toArray 30 (0, 0))) A))))) ?_ ?_
            ·
              refine CodT.block ?_
              have hI := hI.mono (pick2 _ _ _)
              have hI := hI.mono (pick2 _ _ _)
              have hI := hI.mono (pick4 _ _ _ _ _)
              have hI := hI.mono (pick4 _ _ _ _ _)
              refine (fun a ha => wp_loopN (fun k a w => ∃ (x62 : ByteArray) (x63 : Int) (x64 : (List Ref15Entry)) (x67 : (List Int)) (A65 : Option Addr) (cp66 : Nat) (A68 : Option Addr) (cp69 : Nat), ref15_Read.l2 y48 k x62 x63 x64 x67 = some r1 ∧ Fr 111 [(0, .string x62), (2, .pointer (some ⟨b1, 0, none⟩)), (4, .pointer (some ⟨b2, 0, none⟩)), (13, .int .i64 y48), (14, .int .i64 x63)] a ∧ Inv w0 Z w (star (ownS 69 c_Ref15Entry 4 A65 cp66 x64) (star (ownS 3 (cI .i64) 1 A68 cp69 x67) (star (pt b2 (.cells ((([.slice A65 x64.length cp66, .slice A68 x67.length cp69] : List Value))).toArray 30 (0, 0))) (star (pt b1 (.cells ((([.slice none 0 0, .slice none 0 0] : List Value))).toArray 30 (0, 0))) A))))) ?_ FU a w ⟨y49, 0, x12, x15, A13, cp14, A16, cp17, h1, ha.keep [0, 2, 4, 13, 14] (by kernel_rfl), hI⟩)
              clear h1 hI
              rintro k a w ⟨x62, x63, x64, x67, A65, cp66, A68, cp69, h1, ha, hI⟩
              rcases k with _ | k
              · cases h1
              simp only [ref15_Read.l2] at h1
              refine CodT.of ?_ ha
              refine CodT.seq ?_
              refine CodT.seq ?_
              refine CodT.regionL [0, 1, 2] (by kernel_rfl) ?_
              refine OpsT.pures (r := []) [0, 1, 2] [0, 2, 4, 13, 14, 83] (S' := [(0, .string x62), (2, .pointer (some ⟨b1, 0, none⟩)), (4, .pointer (some ⟨b2, 0, none⟩)), (13, .int .i64 y48), (14, .int .i64 x63), (83, .bool (decide (x63 < y48)))]) (by kernel_rfl) ?_
              refine OpsT.done ?_
              refine Qn.then ?_
              by_cases hb70 : (decide (x63 < y48)) = true
              · rw [if_pos hb70] at h1
                refine CodT.yes' (b := decide (x63 < y48)) (by kernel_rfl) hb70 ?_
                refine CodT.skip ?_
                refine Qn.then ?_
                refine CodT.seq ?_
                refine CodT.block ?_
                refine CodT.seq ?_
                refine CodT.regionL [0, 1, 2, 3, 4, 5, 6, 7, 8] (by kernel_rfl) ?_
                refine OpsT.pures (r := [1, 2, 3, 4, 5, 6, 7, 8]) [0] [2, 4, 13, 14, 87] (S' := [(2, .pointer (some ⟨b1, 0, none⟩)), (4, .pointer (some ⟨b2, 0, none⟩)), (13, .int .i64 y48), (14, .int .i64 x63), (87, .string x62)]) (by kernel_rfl) ?_
                obtain ⟨⟨y72, y73, y74⟩, hc71, h1⟩ := bindS h1
                try dsimp only at h1
                refine OpsT.cons (Does.call (d := some 88) (n := 57) (vs := [.string x62]) (by kernel_rfl) en57 (c57 w0 w _ _ hI x62 _ hc71) ?_)
                rintro e w ⟨rfl, hI⟩
                refine ⟨_, rfl, ?_⟩
                refine OpsT.pures (r := []) [2, 3, 4, 5, 6, 7, 8] [2, 4, 13, 14, 15, 16, 17] (S' := [(2, .pointer (some ⟨b1, 0, none⟩)), (4, .pointer (some ⟨b2, 0, none⟩)), (13, .int .i64 y48), (14, .int .i64 x63), (15, .int .i64 y72), (16, .string y73), (17, .bool y74)]) (by kernel_rfl) ?_
                refine OpsT.done ?_
                refine Qn.then ?_
                refine CodT.seq ?_
                refine CodT.seq ?_
                refine CodT.regionL [0, 1] (by kernel_rfl) ?_
                refine OpsT.pures (r := []) [0, 1] [2, 4, 13, 14, 15, 16, 93] (S' := [(2, .pointer (some ⟨b1, 0, none⟩)), (4, .pointer (some ⟨b2, 0, none⟩)), (13, .int .i64 y48), (14, .int .i64 x63), (15, .int .i64 y72), (16, .string y73), (93, .bool (!y74))]) (by kernel_rfl) ?_
                refine OpsT.done ?_
                refine Qn.then ?_
                by_cases hb75 : (!y74) = true
                · rw [if_pos hb75] at h1
                  refine CodT.yes' (b := !y74) (by kernel_rfl) hb75 ?_
                  refine CodT.seq ?_
                  refine CodT.regionL [0, 1, 2] (by kernel_rfl) ?_
                  refine OpsT.pures (r := [1, 2]) [0] [2, 94] (S' := [(2, .pointer (some ⟨b1, 0, none⟩)), (94, .agg ((([.slice none 0 0, .slice none 0 0] : List Value))).toArray)]) (by kernel_rfl) ?_
                  have hI := hI.mono (pick4 _ _ _ _ _)
                  refine OpsT.cons (Does.storeLit (T := 30) (b := b1) (o := 0) (v := .agg ((([.slice none 0 0, .slice none 0 0] : List Value))).toArray) (l := (([.slice none 0 0, .slice none 0 0] : List Value))) (vs := (([.slice none 0 0, .slice none 0 0] : List Value))) (L' := (([.slice none 0 0, .slice none 0 0] : List Value))) (by kernel_rfl) ty30 hI (by kernel_rfl) (by kernel_rfl) (by kernel_rfl) (by kernel_rfl) (by kernel_rfl) ?_)
                  intro w hI
                  refine OpsT.pures (r := []) [2] [2, 3] (S' := [(2, .pointer (some ⟨b1, 0, none⟩)), (3, .bool false)]) (by kernel_rfl) ?_
                  refine OpsT.done ?_
                  refine Qn.then ?_
                  refine CodT.ret ?_
                  refine Qn.ret_then ?_
                  refine Qn.block_ret ?_
                  refine Qn.ret_then ?_
                  refine Qn.ret_then ?_
                  refine Qn.block_ret ?_
                  refine Qn.ret_then ?_
                  refine Qn.ret_then ?_
                  have hL76 := (ldBN ty30 (l := (([.slice none 0 0, .slice none 0 0] : List Value))) (o := 0) (cs := (([.slice none 0 0, .slice none 0 0] : List Value))) (ent_refl _) (by kernel_rfl) (whole _ _ (by kernel_rfl))) w hI
                  have hI := hI.drop
                  have hI := hI.drop
                  have hI := hI.drop
                  have hI := hI.drop
                  have e := someS h1
                  subst e
                  try dsimp only at h0
                  have e := someS h0
                  subst e
                  refine Qn.keep [2, 3] (S' := [(2, .pointer (some ⟨b1, 0, none⟩)), (3, .bool false)]) (by kernel_rfl) ?_
                  exact post_ret (v := .tuple #[.agg ((([.slice none 0 0, .slice none 0 0] : List Value))).toArray, .bool false]) (fun a ha => RunRes.run (vs := [.agg ((([.slice none 0 0, .slice none 0 0] : List Value))).toArray, .bool false]) (.cell (t := 2) (T := 30) (ad := ⟨b1, 0, none⟩) (by kernel_rfl) hL76 (.tmp (t := 3) (by kernel_rfl) .nil)) ha (by kernel_rfl)) ⟨none, 0, none, 0, Z, Hp.le_refl _, rfl, (RdS.nil _ _ _ _ _ (Nat.zero_le _)), (RdS.nil _ _ _ _ _ (Nat.zero_le _)), hI⟩
                · rw [if_neg hb75] at h1
                  refine CodT.no' (b := !y74) (by kernel_rfl) (by simpa using hb75) ?_
                  refine CodT.skip ?_
                  refine Qn.then ?_
                  refine CodT.seq ?_
                  refine CodT.regionL [0, 1, 2, 3, 4, 5, 6] (by kernel_rfl) ?_
                  refine OpsT.pures (r := [1, 2, 3, 4, 5, 6]) [0] [2, 4, 13, 14, 15, 16, 95] (S' := [(2, .pointer (some ⟨b1, 0, none⟩)), (4, .pointer (some ⟨b2, 0, none⟩)), (13, .int .i64 y48), (14, .int .i64 x63), (15, .int .i64 y72), (16, .string y73), (95, .pointer (some ⟨b2, 1, none⟩))]) (by kernel_rfl) ?_
                  refine OpsT.cons (Does.yi (Yl.load (d := 96) (T := 23) (v := .slice A68 x67.length cp69) (by kernel_rfl) (ldB ty23 (l := (([.slice A65 x64.length cp66, .slice A68 x67.length cp69] : List Value))) (o := 1) (v := .slice A68 x67.length cp69) (pick3 _ _ _ _) (by kernel_rfl))) hI ?_)
                  refine OpsT.pures (r := [3, 4, 5, 6]) [2] [2, 4, 13, 14, 16, 96, 97] (S' := [(2, .pointer (some ⟨b1, 0, none⟩)), (4, .pointer (some ⟨b2, 0, none⟩)), (13, .int .i64 y48), (14, .int .i64 x63), (16, .string y73), (96, .slice A68 x67.length cp69), (97, .int .i64 y72)]) (by kernel_rfl) ?_
                  refine OpsT.cons (Does.buildSlice (en := (cI .i64)) (d := 98) (n := 1) (T := 23) (ps := [(0, .int .i64 y72)]) ([y72] : List Int) (by kernel_rfl) Go.Proofs.Try.underlying23 ty3 (by kernel_rfl) (by kernel_rfl) (by kernel_rfl) (by kernel_rfl) (len_all (fun _ => rfl)) hI ?_)
                  intro b77 w hI
                  obtain ⟨hg78, h1⟩ := guardS h1
                  have hI := hI.mono (pick3 _ _ _ _)
                  refine OpsT.cons (Does.append (d := 99) (t := 23) (tx := 23) (ty := 23) (ys := x67) (zs := ([y72] : List Int)) (x := .slice (some ⟨b77, 0, none⟩) (([y72] : List Int).length) 1) (by kernel_rfl) Go.Proofs.Try.underlying23 ty3 (by kernel_rfl) hI (src_own Go.Proofs.Try.underlying23 (hI.mono (pick2 _ _ _)) (one_flat _ (fun _ => rfl))) (ownS_facts (hI.mono (pick2 _ _ _))).2.2 (by unfold LIM at hg78; omega) hg78 ?_)
                  intro A79 cp80 w hI
                  refine OpsT.pures (r := [6]) [5] [2, 4, 13, 14, 16, 99, 100] (S' := [(2, .pointer (some ⟨b1, 0, none⟩)), (4, .pointer (some ⟨b2, 0, none⟩)), (13, .int .i64 y48), (14, .int .i64 x63), (16, .string y73), (99, .slice A79 ((x67 ++ ([y72] : List Int)).length) cp80), (100, .pointer (some ⟨b2, 1, none⟩))]) (by kernel_rfl) ?_
                  have hI := hI.mono (pick4 _ _ _ _ _)
                  refine OpsT.cons (Does.storeLit (T := 23) (b := b2) (o := 1) (v := .slice A79 ((x67 ++ ([y72] : List Int)).length) cp80) (l := (([.slice A65 x64.length cp66, .slice A68 x67.length cp69] : List Value))) (vs := ([.slice A79 ((x67 ++ ([y72] : List Int)).length) cp80] : List Value)) (L' := (([.slice A65 x64.length cp66, .slice A79 ((x67 ++ ([y72] : List Int)).length) cp80] : List Value))) (by kernel_rfl) ty23 hI (by kernel_rfl) (by kernel_rfl) (by kernel_rfl) (by kernel_rfl) (by kernel_rfl) ?_)
                  intro w hI
                  refine OpsT.done ?_
                  refine Qn.then ?_
                  refine CodT.regionL [0, 1] (by kernel_rfl) ?_
                  refine OpsT.pures (r := []) [0, 1] [0, 2, 4, 13, 14] (S' := [(0, .string y73), (2, .pointer (some ⟨b1, 0, none⟩)), (4, .pointer (some ⟨b2, 0, none⟩)), (13, .int .i64 y48), (14, .int .i64 x63)]) (by kernel_rfl) ?_
                  refine OpsT.done ?_
                  refine Qn.block_normal ?_
                  refine Qn.then ?_
                  refine CodT.regionL [0, 1, 2] (by kernel_rfl) ?_
                  refine OpsT.pures (r := []) [0, 1, 2] [0, 2, 4, 13, 14] (S' := [(0, .string y73), (2, .pointer (some ⟨b1, 0, none⟩)), (4, .pointer (some ⟨b2, 0, none⟩)), (13, .int .i64 y48), (14, .int .i64 (wi64 (x63 + 1)))]) (by kernel_rfl) ?_
                  refine OpsT.done ?_
                  have hI := hI.mono (pick3 _ _ _ _)
                  have hI := hI.drop
                  have hI := hI.mono (pick4 _ _ _ _ _)
                  have hI := hI.mono (pick2 _ _ _)
                  have hI := hI.mono (pick3 _ _ _ _)
                  have hI := hI.mono (pick4 _ _ _ _ _)
                  exact Qn.thenJ fun a ha => ⟨k, Nat.lt_succ_self k, y73, wi64 (x63 + 1), x64, x67 ++ ([y72] : List Int), A65, cp66, A79, cp80, h1, ha.keep [0, 2, 4, 13, 14] (by kernel_rfl), hI⟩
              · rw [if_neg hb70] at h1
                refine CodT.no' (b := decide (x63 < y48)) (by kernel_rfl) (by simpa using hb70) ?_
                refine CodT.exit ?_
                refine Qn.exit_then ?_
                refine Qn.exit_then ?_
                refine Qn.block ?_
                have e := someS h1
                subst e
                exact Qn.thenJ fun a ha => ⟨x62, x64, x67, A65, cp66, A68, cp69, rfl, ha.keep [0, 2, 4] (by kernel_rfl), hI⟩
            ·
              rintro a w ⟨x55, x56, x59, A57, cp58, A60, cp61, rfl, ha, hI⟩
              try dsimp only at h0
              refine Qn.of ?_ ha
              refine Qn.then ?_
              refine CodT.seq ?_
              obtain ⟨r1, h1, h0⟩ := bindS h0
              refine CodT.meet (fun a w => ∃ (x83 : Bool) (x84 : (List Ref15Entry)) (x88 : (List Int)) (Z81 : Hp) (A85 : Option Addr) (cp86 : Nat) (A89 : Option Addr) (cp90 : Nat), (x83, x84, x88) = r1 ∧ Fr 111 [(2, .pointer (some ⟨b1, 0, none⟩)), (4, .pointer (some ⟨b2, 0, none⟩)), (108, .bool x83)] a ∧ Inv w0 Z81 w (star (pt b2 (.cells ((([.slice A85 x84.length cp86, .slice A89 x88.length cp90] : List Value))).toArray 30 (0, 0))) (star (pt b1 (.cells ((([.slice none 0 0, .slice none 0 0] : List Value))).toArray 30 (0, 0))) A)) ∧ Z.le Z81 ∧ RdS Z81 c_Ref15Entry 4 A85 cp86 x84 ∧ RdS Z81 (cI .i64) 1 A89 cp90 x88) ?_ ?_
              ·
                refine CodT.regionL [0, 1, 2, 3, 4, 5, 6] (by kernel_rfl) ?_
                refine OpsT.pures (r := [3, 4, 5, 6]) [0, 1, 2] [2, 4, 104] (S' := [(2, .pointer (some ⟨b1, 0, none⟩)), (4, .pointer (some ⟨b2, 0, none⟩)), (104, .bool (!(seq x55 (⟨#[]⟩ : ByteArray))))]) (by kernel_rfl) ?_
                by_cases hb92 : (!(seq x55 (⟨#[]⟩ : ByteArray))) = true
                · rw [if_pos hb92] at h1
                  refine OpsT.keep [2, 4, 104] (S' := [(2, .pointer (some ⟨b1, 0, none⟩)), (4, .pointer (some ⟨b2, 0, none⟩)), (104, .bool true)]) (by simp only [hb92]; kernel_rfl) ?_
                  refine OpsT.pures (r := []) [3, 4, 5, 6] [2, 4, 108] (S' := [(2, .pointer (some ⟨b1, 0, none⟩)), (4, .pointer (some ⟨b2, 0, none⟩)), (108, .bool true)]) (by kernel_rfl) ?_
                  refine OpsT.done ?_
                  obtain ⟨Z93, hle94, hr95, hI⟩ := ownS_freeze hI
                  obtain ⟨Z96, hle97, hr98, hI⟩ := ownS_freeze hI
                  have e := someS h1
                  subst e
                  exact Qn.thenJ fun a ha => ⟨true, x56, x59, Z96, A57, cp58, A60, cp61, rfl, ha.keep [2, 4, 108] (by kernel_rfl), hI, (Hp.le_trans hle94 hle97), (hr95.mono hle97), hr98⟩
                · rw [if_neg hb92] at h1
                  have hb92 : (!(seq x55 (⟨#[]⟩ : ByteArray))) = false := by simpa using hb92
                  refine OpsT.keep [2, 4, 104] (S' := [(2, .pointer (some ⟨b1, 0, none⟩)), (4, .pointer (some ⟨b2, 0, none⟩)), (104, .bool false)]) (by simp only [hb92]; kernel_rfl) ?_
                  refine OpsT.cons (Does.yi (Yl.load (d := 105) (T := 30) (v := .agg ((([.slice A57 x56.length cp58, .slice A60 x59.length cp61] : List Value))).toArray) (by kernel_rfl) (ldBN ty30 (l := (([.slice A57 x56.length cp58, .slice A60 x59.length cp61] : List Value))) (o := 0) (cs := (([.slice A57 x56.length cp58, .slice A60 x59.length cp61] : List Value))) (pick3 _ _ _ _) (by kernel_rfl) (whole _ _ (by kernel_rfl)))) hI ?_)
                  obtain ⟨Z99, hle100, hr101, hI⟩ := ownS_freeze hI
                  obtain ⟨Z102, hle103, hr104, hI⟩ := ownS_freeze hI
                  obtain ⟨y106, hc105, h1⟩ := bindS h1
                  try dsimp only at h1
                  refine OpsT.cons (Does.call (d := some 106) (n := 11) (vs := [.agg ((([.slice A57 x56.length cp58, .slice A60 x59.length cp61] : List Value))).toArray]) (by kernel_rfl) en11 (c11 w0 w _ _ hI A57 cp58 x56 (hr101.mono hle103) A60 cp61 x59 hr104 _ hc105) ?_)
                  rintro e w ⟨rfl, hI⟩
                  refine ⟨_, rfl, ?_⟩
                  refine OpsT.pures (r := []) [5, 6] [2, 4, 108] (S' := [(2, .pointer (some ⟨b1, 0, none⟩)), (4, .pointer (some ⟨b2, 0, none⟩)), (108, .bool (!y106))]) (by kernel_rfl) ?_
                  refine OpsT.done ?_
                  have e := someS h1
                  subst e
                  exact Qn.thenJ fun a ha => ⟨!y106, x56, x59, Z102, A57, cp58, A60, cp61, rfl, ha.keep [2, 4, 108] (by kernel_rfl), hI, (Hp.le_trans hle100 hle103), (hr101.mono hle103), hr104⟩
              ·
                rintro a w ⟨x83, x84, x88, Z81, A85, cp86, A89, cp90, rfl, ha, hI, hle82, hr87, hr91⟩
                try dsimp only at h0
                refine CodT.of ?_ ha
                by_cases hb107 : x83 = true
                · rw [if_pos hb107] at h0
                  refine CodT.yes' (b := x83) (by kernel_rfl) hb107 ?_
                  refine CodT.seq ?_
                  refine CodT.regionL [0, 1, 2] (by kernel_rfl) ?_
                  refine OpsT.pures (r := [1, 2]) [0] [2, 109] (S' := [(2, .pointer (some ⟨b1, 0, none⟩)), (109, .agg ((([.slice none 0 0, .slice none 0 0] : List Value))).toArray)]) (by kernel_rfl) ?_
                  have hI := hI.mono (pick2 _ _ _)
                  refine OpsT.cons (Does.storeLit (T := 30) (b := b1) (o := 0) (v := .agg ((([.slice none 0 0, .slice none 0 0] : List Value))).toArray) (l := (([.slice none 0 0, .slice none 0 0] : List Value))) (vs := (([.slice none 0 0, .slice none 0 0] : List Value))) (L' := (([.slice none 0 0, .slice none 0 0] : List Value))) (by kernel_rfl) ty30 hI (by kernel_rfl) (by kernel_rfl) (by kernel_rfl) (by kernel_rfl) (by kernel_rfl) ?_)
                  intro w hI
                  refine OpsT.pures (r := []) [2] [2, 3] (S' := [(2, .pointer (some ⟨b1, 0, none⟩)), (3, .bool false)]) (by kernel_rfl) ?_
                  refine OpsT.done ?_
                  refine Qn.then ?_
                  refine CodT.ret ?_
                  refine Qn.ret_then ?_
                  have hL108 := (ldBN ty30 (l := (([.slice none 0 0, .slice none 0 0] : List Value))) (o := 0) (cs := (([.slice none 0 0, .slice none 0 0] : List Value))) (ent_refl _) (by kernel_rfl) (whole _ _ (by kernel_rfl))) w hI
                  have hI := hI.drop
                  have hI := hI.drop
                  have e := someS h0
                  subst e
                  refine Qn.keep [2, 3] (S' := [(2, .pointer (some ⟨b1, 0, none⟩)), (3, .bool false)]) (by kernel_rfl) ?_
                  exact post_ret (v := .tuple #[.agg ((([.slice none 0 0, .slice none 0 0] : List Value))).toArray, .bool false]) (fun a ha => RunRes.run (vs := [.agg ((([.slice none 0 0, .slice none 0 0] : List Value))).toArray, .bool false]) (.cell (t := 2) (T := 30) (ad := ⟨b1, 0, none⟩) (by kernel_rfl) hL108 (.tmp (t := 3) (by kernel_rfl) .nil)) ha (by kernel_rfl)) ⟨none, 0, none, 0, Z81, hle82, rfl, (RdS.nil _ _ _ _ _ (Nat.zero_le _)), (RdS.nil _ _ _ _ _ (Nat.zero_le _)), hI⟩
                · rw [if_neg hb107] at h0
                  refine CodT.no' (b := x83) (by kernel_rfl) (by simpa using hb107) ?_
                  refine CodT.skip ?_
                  refine Qn.then ?_
                  refine CodT.seq ?_
                  refine CodT.regionL [0, 1, 2] (by kernel_rfl) ?_
                  refine OpsT.cons (Does.yi (Yl.load (d := 110) (T := 30) (v := .agg ((([.slice A85 x84.length cp86, .slice A89 x88.length cp90] : List Value))).toArray) (by kernel_rfl) (ldBN ty30 (l := (([.slice A85 x84.length cp86, .slice A89 x88.length cp90] : List Value))) (o := 0) (cs := (([.slice A85 x84.length cp86, .slice A89 x88.length cp90] : List Value))) (ent_refl _) (by kernel_rfl) (whole _ _ (by kernel_rfl)))) hI ?_)
                  have hI := hI.mono (pick2 _ _ _)
                  refine OpsT.cons (Does.storeLit (T := 30) (b := b1) (o := 0) (v := .agg ((([.slice A85 x84.length cp86, .slice A89 x88.length cp90] : List Value))).toArray) (l := (([.slice none 0 0, .slice none 0 0] : List Value))) (vs := (([.slice A85 x84.length cp86, .slice A89 x88.length cp90] : List Value))) (L' := (([.slice A85 x84.length cp86, .slice A89 x88.length cp90] : List Value))) (by kernel_rfl) ty30 hI (by kernel_rfl) (by kernel_rfl) (by kernel_rfl) (by kernel_rfl) (by kernel_rfl) ?_)
                  intro w hI
                  refine OpsT.pures (r := []) [2] [2, 3] (S' := [(2, .pointer (some ⟨b1, 0, none⟩)), (3, .bool true)]) (by kernel_rfl) ?_
                  refine OpsT.done ?_
                  refine Qn.then ?_
                  refine CodT.ret ?_
                  have hL109 := (ldBN ty30 (l := (([.slice A85 x84.length cp86, .slice A89 x88.length cp90] : List Value))) (o := 0) (cs := (([.slice A85 x84.length cp86, .slice A89 x88.length cp90] : List Value))) (ent_refl _) (by kernel_rfl) (whole _ _ (by kernel_rfl))) w hI
                  have hI := hI.drop
                  have hI := hI.drop
                  have e := someS h0
                  subst e
                  refine Qn.keep [2, 3] (S' := [(2, .pointer (some ⟨b1, 0, none⟩)), (3, .bool true)]) (by kernel_rfl) ?_
                  exact post_ret (v := .tuple #[.agg ((([.slice A85 x84.length cp86, .slice A89 x88.length cp90] : List Value))).toArray, .bool true]) (fun a ha => RunRes.run (vs := [.agg ((([.slice A85 x84.length cp86, .slice A89 x88.length cp90] : List Value))).toArray, .bool true]) (.cell (t := 2) (T := 30) (ad := ⟨b1, 0, none⟩) (by kernel_rfl) hL109 (.tmp (t := 3) (by kernel_rfl) .nil)) ha (by kernel_rfl)) ⟨A85, cp86, A89, cp90, Z81, hle82, rfl, hr87, hr91, hI⟩
end Go.Cen
