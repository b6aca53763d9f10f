/- That the machine computes these: walks, printed by a program of ours. -/
import Derived.Test.YthdoklobbcedcabPx
import Derived.Test.YthdoklobbcedcabWx3
set_option linter.unusedVariables false
set_option linter.unusedSimpArgs false
namespace Go.Cen
set_option maxRecDepth 100000 in
set_option maxHeartbeats 4000000 in
/-- cenotaph/cenotaphref15.texts -/
theorem c59 (w0 w : World) (Z : Hp) (A : HP) (hI : Inv w0 Z w A) (A_a0 : Option Addr) (c_a0 : Nat) (a0 : (List ByteArray)) (hr_a0 : RdS Z cS 1 A_a0 c_a0 a0) (A_a1 : Option Addr) (c_a1 : Nat) (a1 : (List ByteArray)) (hr_a1 : RdS Z cS 1 A_a1 c_a1 a1) (r : Bool) (h0 : ref15_texts a0 a1 = some r) :
    Calls prog 59 #[.slice A_a0 a0.length c_a0, .slice A_a1 a1.length c_a1] w (fun e w' => e = .returned (.bool r) ∧ Inv w0 Z w' A) := by
  have e4 := calls_intro (R := (fun e w' => e = .returned (.bool r) ∧ Inv w0 Z w' A)) (w := w) (args := [.slice A_a0 a0.length c_a0, .slice A_a1 a1.length c_a1]) (fn := Go.Proofs.Try.f59) 26 Go.Proofs.Try.func59 (by rfl) Go.Proofs.Try.ntmps59 (by kernel_rfl)
  refine e4 ?_
  clear e4
  unfold ref15_texts at h0
  refine CodT.seq ?_
  refine CodT.regionL [0] (by kernel_rfl) ?_
  refine OpsT.pures (r := []) [0] [0, 1] (S' := [(0, .slice A_a0 a0.length c_a0), (1, .slice A_a1 a1.length c_a1)]) (by kernel_rfl) ?_
  refine OpsT.done ?_
  refine Qn.then ?_
  refine CodT.seq ?_
  refine CodT.seq ?_
  refine CodT.regionL [0, 1, 2, 3, 4] (by kernel_rfl) ?_
  refine OpsT.pures (r := []) [0, 1, 2, 3, 4] [0, 1, 10] (S' := [(0, .slice A_a0 a0.length c_a0), (1, .slice A_a1 a1.length c_a1), (10, .bool ((a0.length : Int) != (a1.length : Int)))]) (by kernel_rfl) ?_
  refine OpsT.done ?_
  refine Qn.then ?_
  by_cases hb1 : ((a0.length : Int) != (a1.length : Int)) = true
  · rw [if_pos hb1] at h0
    refine CodT.yes' (b := (a0.length : Int) != (a1.length : Int)) (by kernel_rfl) hb1 ?_
    refine CodT.seq ?_
    refine CodT.regionL [0] (by kernel_rfl) ?_
    refine OpsT.pures (r := []) [0] [4] (S' := [(4, .bool false)]) (by kernel_rfl) ?_
    refine OpsT.done ?_
    refine Qn.then ?_
    refine CodT.ret ?_
    refine Qn.ret_then ?_
    have e := someS h0
    subst e
    refine Qn.keep [4] (S' := [(4, .bool false)]) (by kernel_rfl) ?_
    exact post_ret (v := .bool false) (fun a ha => RunRes.run (vs := [.bool false]) (.tmp (t := 4) (by kernel_rfl) .nil) ha (by kernel_rfl)) ⟨rfl, hI⟩
  · rw [if_neg hb1] at h0
    refine CodT.no' (b := (a0.length : Int) != (a1.length : Int)) (by kernel_rfl) (by simpa using hb1) ?_
    refine CodT.skip ?_
    refine Qn.then ?_
    refine CodT.seq ?_
    refine CodT.seq ?_
    refine CodT.regionL [0] (by kernel_rfl) ?_
    refine OpsT.pures (r := []) [0] [0, 1, 5] (S' := [(0, .slice A_a0 a0.length c_a0), (1, .slice A_a1 a1.length c_a1), (5, .int .i64 0)]) (by kernel_rfl) ?_
    refine OpsT.done ?_
    refine Qn.then ?_
    obtain ⟨r1, h1, h0⟩ := bindS h0
    refine CodT.meet1 (fun a w => .inr () = r1 ∧ Fr 26 [] a ∧ Inv w0 Z w A) ?_ ?_
    ·
      refine CodT.block ?_
      refine (fun a ha => wp_loopN (fun k a w => ∃ (x2 : Int), ref15_texts.l0 a0 a1 k x2 = some r1 ∧ Fr 26 [(0, .slice A_a0 a0.length c_a0), (1, .slice A_a1 a1.length c_a1), (5, .int .i64 x2)] a ∧ Inv w0 Z w A) ?_ FU a w ⟨0, h1, ha.keep [0, 1, 5] (by kernel_rfl), hI⟩)
      clear h1 hI
      rintro k a w ⟨x2, h1, ha, hI⟩
      rcases k with _ | k
      · cases h1
      simp only [ref15_texts.l0] at h1
      refine CodT.of ?_ ha
      refine CodT.seq ?_
      refine CodT.seq ?_
      refine CodT.regionL [0, 1, 2, 3] (by kernel_rfl) ?_
      refine OpsT.pures (r := []) [0, 1, 2, 3] [0, 1, 5, 14] (S' := [(0, .slice A_a0 a0.length c_a0), (1, .slice A_a1 a1.length c_a1), (5, .int .i64 x2), (14, .bool (decide (x2 < (a0.length : Int))))]) (by kernel_rfl) ?_
      refine OpsT.done ?_
      refine Qn.then ?_
      by_cases hb3 : (decide (x2 < (a0.length : Int))) = true
      · rw [if_pos hb3] at h1
        refine CodT.yes' (b := decide (x2 < (a0.length : Int))) (by kernel_rfl) hb3 ?_
        refine CodT.skip ?_
        refine Qn.then ?_
        refine CodT.seq ?_
        refine CodT.block ?_
        refine CodT.seq ?_
        refine CodT.drawI (n := 9) [] (by kernel_rfl) (by kernel_rfl) hI ?_
        intro w hI
        refine GmT.p' 0 17 (.slice A_a0 a0.length c_a0) (by kernel_rfl) (by kernel_rfl) ?_
        refine GmT.p' 1 18 (.int .i64 x2) (by kernel_rfl) (by kernel_rfl) ?_
        refine GmT.p' 4 21 (.slice A_a1 a1.length c_a1) (by kernel_rfl) (by kernel_rfl) ?_
        refine GmT.p' 5 22 (.int .i64 x2) (by kernel_rfl) (by kernel_rfl) ?_
        obtain ⟨hg4, h1⟩ := guardS h1
        obtain ⟨g5, o9, hA6, hr7, hl8⟩ := RdS.get hr_a0 hg4.1 hg4.2
        refine GmT.r (i := 2) 2 (by kernel_rfl) (by kernel_rfl) (Yl.indexSlice (d := 19) (T := 36) (cc := c_a0) (k := .i64) (j := x2) (g := g5) (o := o9) (by kernel_rfl) Go.Proofs.Try.underlying36 ty9 hA6 hg4.1 hg4.2) hI ?_
        refine GmT.r (i := 3) 2 (by kernel_rfl) (by kernel_rfl) (Yl.load (d := 20) (T := 9) (v := .string (gt a0 x2)) (by kernel_rfl) (ldR ty9 (v := .string (gt a0 x2)) 0 (fun w hC => hr7 w0 w _ hC) (by kernel_rfl))) hI ?_
        obtain ⟨hg10, h1⟩ := guardS h1
        obtain ⟨g11, o15, hA12, hr13, hl14⟩ := RdS.get hr_a1 hg10.1 hg10.2
        refine GmT.r (i := 6) 2 (by kernel_rfl) (by kernel_rfl) (Yl.indexSlice (d := 23) (T := 36) (cc := c_a1) (k := .i64) (j := x2) (g := g11) (o := o15) (by kernel_rfl) Go.Proofs.Try.underlying36 ty9 hA12 hg10.1 hg10.2) hI ?_
        refine GmT.r (i := 7) 2 (by kernel_rfl) (by kernel_rfl) (Yl.load (d := 24) (T := 9) (v := .string (gt a1 x2)) (by kernel_rfl) (ldR ty9 (v := .string (gt a1 x2)) 0 (fun w hC => hr13 w0 w _ hC) (by kernel_rfl))) hI ?_
        refine GmT.p' 8 25 (.bool (!(seq (gt a0 x2) (gt a1 x2)))) (by kernel_rfl) (by kernel_rfl) ?_
        refine GmT.done (by kernel_rfl) ?_
        refine Qn.then ?_
        by_cases hb16 : (!(seq (gt a0 x2) (gt a1 x2))) = true
        · rw [if_pos hb16] at h1
          refine CodT.yes' (b := !(seq (gt a0 x2) (gt a1 x2))) (by kernel_rfl) hb16 ?_
          refine CodT.seq ?_
          refine CodT.regionL [0] (by kernel_rfl) ?_
          refine OpsT.pures (r := []) [0] [4] (S' := [(4, .bool false)]) (by kernel_rfl) ?_
          refine OpsT.done ?_
          refine Qn.then ?_
          refine CodT.ret ?_
          refine Qn.block_ret ?_
          refine Qn.ret_then ?_
          refine Qn.ret_then ?_
          refine Qn.block_ret ?_
          refine Qn.ret_then ?_
          refine Qn.ret_then ?_
          have e := someS h1
          subst e
          try dsimp only at h0
          have e := someS h0
          subst e
          refine Qn.keep [4] (S' := [(4, .bool false)]) (by kernel_rfl) ?_
          exact post_ret (v := .bool false) (fun a ha => RunRes.run (vs := [.bool false]) (.tmp (t := 4) (by kernel_rfl) .nil) ha (by kernel_rfl)) ⟨rfl, hI⟩
        · rw [if_neg hb16] at h1
          refine CodT.no' (b := !(seq (gt a0 x2) (gt a1 x2))) (by kernel_rfl) (by simpa using hb16) ?_
          refine CodT.skip ?_
          refine Qn.block_normal ?_
          refine Qn.then ?_
          refine CodT.regionL [0, 1, 2] (by kernel_rfl) ?_
          refine OpsT.pures (r := []) [0, 1, 2] [0, 1, 5] (S' := [(0, .slice A_a0 a0.length c_a0), (1, .slice A_a1 a1.length c_a1), (5, .int .i64 (wi64 (x2 + 1)))]) (by kernel_rfl) ?_
          refine OpsT.done ?_
          exact Qn.thenJ fun a ha => ⟨k, Nat.lt_succ_self k, wi64 (x2 + 1), h1, ha.keep [0, 1, 5] (by kernel_rfl), hI⟩
      · rw [if_neg hb3] at h1
        refine CodT.no' (b := decide (x2 < (a0.length : Int))) (by kernel_rfl) (by simpa using hb3) ?_
        refine CodT.exit ?_
        refine Qn.exit_then ?_
        refine Qn.exit_then ?_
        refine Qn.block ?_
        have e := someS h1
        subst e
        exact Qn.thenJ fun a ha => ⟨rfl, ha.keep [] (by kernel_rfl), hI⟩
    ·
      rintro a w ⟨rfl, ha, hI⟩
      try dsimp only at h0
      refine Qn.of ?_ ha
      refine Qn.then ?_
      refine CodT.seq ?_
      refine CodT.regionL [0] (by kernel_rfl) ?_
      refine OpsT.pures (r := []) [0] [4] (S' := [(4, .bool true)]) (by kernel_rfl) ?_
      refine OpsT.done ?_
      refine Qn.then ?_
      refine CodT.ret ?_
      have e := someS h0
      subst e
      refine Qn.keep [4] (S' := [(4, .bool true)]) (by kernel_rfl) ?_
      exact post_ret (v := .bool true) (fun a ha => RunRes.run (vs := [.bool true]) (.tmp (t := 4) (by kernel_rfl) .nil) ha (by kernel_rfl)) ⟨rfl, hI⟩
set_option maxRecDepth 100000 in
set_option maxHeartbeats 4000000 in
/-- cenotaph/cenotaphref15.Get -/
theorem c20 (w0 w : World) (Z : Hp) (A : HP) (hI : Inv w0 Z w A) (A_a0 : Option Addr) (c_a0 : Nat) (a0 : (List ByteArray)) (hr_a0 : RdS Z cS 1 A_a0 c_a0 a0) (r : ((List Ref15Entry) × (List Int) × Bool)) (h0 : ref15_Get a0 = some r) :
    Calls prog 20 #[.slice A_a0 a0.length c_a0] w (fun e w' => ∃ (A1 : Option Addr) (c1 : Nat) (A2 : Option Addr) (c2 : Nat) (Z' : Hp), Z.le Z' ∧ e = .returned (.tuple #[.agg ((([.slice A1 r.1.length c1, .slice A2 r.2.1.length c2] : List Value))).toArray, .bool r.2.2]) ∧ RdS Z' c_Ref15Entry 4 A1 c1 r.1 ∧ RdS Z' (cI .i64) 1 A2 c2 r.2.1 ∧ Inv w0 Z' w' A) := by
  have e4 := calls_intro (R := (fun e w' => ∃ (A1 : Option Addr) (c1 : Nat) (A2 : Option Addr) (c2 : Nat) (Z' : Hp), Z.le Z' ∧ e = .returned (.tuple #[.agg ((([.slice A1 r.1.length c1, .slice A2 r.2.1.length c2] : List Value))).toArray, .bool r.2.2]) ∧ RdS Z' c_Ref15Entry 4 A1 c1 r.1 ∧ RdS Z' (cI .i64) 1 A2 c2 r.2.1 ∧ Inv w0 Z' w' A)) (w := w) (args := [.slice A_a0 a0.length c_a0]) (fn := Go.Proofs.Try.f20) 61 Go.Proofs.Try.func20 (by rfl) Go.Proofs.Try.ntmps20 (by kernel_rfl)
  refine e4 ?_
  clear e4
  unfold ref15_Get at h0
  refine CodT.seq ?_
  refine CodT.regionL [0, 1] (by kernel_rfl) ?_
  refine OpsT.cons (Does.allocL (d := 2) (T := 30) ((([.slice none 0 0, .slice none 0 0] : List Value))) (by kernel_rfl) ty30 hI (by kernel_rfl) ?_)
  intro b1 w hI
  refine OpsT.pures (r := []) [1] [0, 2] (S' := [(0, .slice A_a0 a0.length c_a0), (2, .pointer (some ⟨b1, 0, none⟩))]) (by kernel_rfl) ?_
  refine OpsT.done ?_
  refine Qn.then ?_
  refine CodT.seq ?_
  refine CodT.regionL [0] (by kernel_rfl) ?_
  refine OpsT.pures (r := []) [0] [0, 2, 4] (S' := [(0, .slice A_a0 a0.length c_a0), (2, .pointer (some ⟨b1, 0, none⟩)), (4, .string (⟨#[]⟩ : ByteArray))]) (by kernel_rfl) ?_
  refine OpsT.done ?_
  refine Qn.then ?_
  refine CodT.seq ?_
  refine CodT.seq ?_
  refine CodT.regionL [0] (by kernel_rfl) ?_
  refine OpsT.pures (r := []) [0] [0, 2, 4, 5] (S' := [(0, .slice A_a0 a0.length c_a0), (2, .pointer (some ⟨b1, 0, none⟩)), (4, .string (⟨#[]⟩ : ByteArray)), (5, .int .i64 0)]) (by kernel_rfl) ?_
  refine OpsT.done ?_
  refine Qn.then ?_
  obtain ⟨r1, h1, h0⟩ := bindS h0
  refine CodT.meet1 (fun a w => ∃ (x2 : ByteArray), .inr x2 = r1 ∧ Fr 61 [(0, .slice A_a0 a0.length c_a0), (2, .pointer (some ⟨b1, 0, none⟩)), (4, .string x2)] a ∧ Inv w0 Z w (star (pt b1 (.cells ((([.slice none 0 0, .slice none 0 0] : List Value))).toArray 30 (0, 0))) A)) ?_ ?_
  ·
    refine CodT.block ?_
    refine (fun a ha => wp_loopN (fun k a w => ∃ (x3 : ByteArray) (x4 : Int), ref15_Get.l0 a0 k x3 x4 = some r1 ∧ Fr 61 [(0, .slice A_a0 a0.length c_a0), (2, .pointer (some ⟨b1, 0, none⟩)), (4, .string x3), (5, .int .i64 x4)] a ∧ Inv w0 Z w (star (pt b1 (.cells ((([.slice none 0 0, .slice none 0 0] : List Value))).toArray 30 (0, 0))) A)) ?_ FU a w ⟨(⟨#[]⟩ : ByteArray), 0, h1, ha.keep [0, 2, 4, 5] (by kernel_rfl), hI⟩)
    clear h1 hI
    rintro k a w ⟨x3, x4, h1, ha, hI⟩
    rcases k with _ | k
    · cases h1
    simp only [ref15_Get.l0] at h1
    refine CodT.of ?_ ha
    refine CodT.seq ?_
    refine CodT.seq ?_
    refine CodT.regionL [0, 1, 2, 3] (by kernel_rfl) ?_
    refine OpsT.pures (r := []) [0, 1, 2, 3] [0, 2, 4, 5, 15] (S' := [(0, .slice A_a0 a0.length c_a0), (2, .pointer (some ⟨b1, 0, none⟩)), (4, .string x3), (5, .int .i64 x4), (15, .bool (decide (x4 < (a0.length : Int))))]) (by kernel_rfl) ?_
    refine OpsT.done ?_
    refine Qn.then ?_
    by_cases hb5 : (decide (x4 < (a0.length : Int))) = true
    · rw [if_pos hb5] at h1
      refine CodT.yes' (b := decide (x4 < (a0.length : Int))) (by kernel_rfl) hb5 ?_
      refine CodT.skip ?_
      refine Qn.then ?_
      refine CodT.seq ?_
      refine CodT.block ?_
      refine CodT.seq ?_
      refine CodT.regionL [0, 1, 2, 3, 4, 5, 6, 7, 8, 9, 10, 11] (by kernel_rfl) ?_
      refine OpsT.pures (r := [2, 3, 4, 5, 6, 7, 8, 9, 10, 11]) [0, 1] [0, 2, 4, 5, 19, 20] (S' := [(0, .slice A_a0 a0.length c_a0), (2, .pointer (some ⟨b1, 0, none⟩)), (4, .string x3), (5, .int .i64 x4), (19, .slice A_a0 a0.length c_a0), (20, .int .i64 x4)]) (by kernel_rfl) ?_
      obtain ⟨hg6, h1⟩ := guardS h1
      obtain ⟨g7, o11, hA8, hr9, hl10⟩ := RdS.get hr_a0 hg6.1 hg6.2
      refine OpsT.cons (Does.yi (Yl.indexSlice (d := 21) (T := 36) (cc := c_a0) (k := .i64) (j := x4) (g := g7) (o := o11) (by kernel_rfl) Go.Proofs.Try.underlying36 ty9 hA8 hg6.1 hg6.2) hI ?_)
      refine OpsT.cons (Does.yi (Yl.load (d := 22) (T := 9) (v := .string (gt a0 x4)) (by kernel_rfl) (ldR ty9 (v := .string (gt a0 x4)) 0 (fun w hC => hr9 w0 w _ hC) (by kernel_rfl))) hI ?_)
      obtain ⟨⟨y13, y14, y15⟩, hc12, h1⟩ := bindS h1
      try dsimp only at h1
      refine OpsT.cons (Does.call (d := some 23) (n := 57) (vs := [.string (gt a0 x4)]) (by kernel_rfl) en57 (c57 w0 w _ _ hI (gt a0 x4) _ hc12) ?_)
      rintro e w ⟨rfl, hI⟩
      refine ⟨_, rfl, ?_⟩
      refine OpsT.pures (r := []) [5, 6, 7, 8, 9, 10, 11] [0, 2, 4, 5, 7, 8] (S' := [(0, .slice A_a0 a0.length c_a0), (2, .pointer (some ⟨b1, 0, none⟩)), (4, .string x3), (5, .int .i64 x4), (7, .string y14), (8, .bool y15)]) (by kernel_rfl) ?_
      refine OpsT.done ?_
      refine Qn.then ?_
      refine CodT.seq ?_
      refine CodT.seq ?_
      refine CodT.regionL [0, 1] (by kernel_rfl) ?_
      refine OpsT.pures (r := []) [0, 1] [0, 2, 4, 5, 7, 28] (S' := [(0, .slice A_a0 a0.length c_a0), (2, .pointer (some ⟨b1, 0, none⟩)), (4, .string x3), (5, .int .i64 x4), (7, .string y14), (28, .bool (!y15))]) (by kernel_rfl) ?_
      refine OpsT.done ?_
      refine Qn.then ?_
      by_cases hb16 : (!y15) = true
      · rw [if_pos hb16] at h1
        refine CodT.yes' (b := !y15) (by kernel_rfl) hb16 ?_
        refine CodT.seq ?_
        refine CodT.regionL [0, 1, 2] (by kernel_rfl) ?_
        refine OpsT.pures (r := [1, 2]) [0] [2, 29] (S' := [(2, .pointer (some ⟨b1, 0, none⟩)), (29, .agg ((([.slice none 0 0, .slice none 0 0] : List Value))).toArray)]) (by kernel_rfl) ?_
        refine OpsT.cons (Does.storeLit (T := 30) (b := b1) (o := 0) (v := .agg ((([.slice none 0 0, .slice none 0 0] : List Value))).toArray) (l := (([.slice none 0 0, .slice none 0 0] : List Value))) (vs := (([.slice none 0 0, .slice none 0 0] : List Value))) (L' := (([.slice none 0 0, .slice none 0 0] : List Value))) (by kernel_rfl) ty30 hI (by kernel_rfl) (by kernel_rfl) (by kernel_rfl) (by kernel_rfl) (by kernel_rfl) ?_)
        intro w hI
        refine OpsT.pures (r := []) [2] [2, 3] (S' := [(2, .pointer (some ⟨b1, 0, none⟩)), (3, .bool false)]) (by kernel_rfl) ?_
        refine OpsT.done ?_
        refine Qn.then ?_
        refine CodT.ret ?_
        refine Qn.ret_then ?_
        refine Qn.block_ret ?_
        refine Qn.ret_then ?_
        refine Qn.ret_then ?_
        refine Qn.block_ret ?_
        refine Qn.ret_then ?_
        refine Qn.ret_then ?_
        have hL17 := (ldBN ty30 (l := (([.slice none 0 0, .slice none 0 0] : List Value))) (o := 0) (cs := (([.slice none 0 0, .slice none 0 0] : List Value))) (ent_refl _) (by kernel_rfl) (whole _ _ (by kernel_rfl))) w hI
        have hI := hI.drop
        have e := someS h1
        subst e
        try dsimp only at h0
        have e := someS h0
        subst e
        refine Qn.keep [2, 3] (S' := [(2, .pointer (some ⟨b1, 0, none⟩)), (3, .bool false)]) (by kernel_rfl) ?_
        exact post_ret (v := .tuple #[.agg ((([.slice none 0 0, .slice none 0 0] : List Value))).toArray, .bool false]) (fun a ha => RunRes.run (vs := [.agg ((([.slice none 0 0, .slice none 0 0] : List Value))).toArray, .bool false]) (.cell (t := 2) (T := 30) (ad := ⟨b1, 0, none⟩) (by kernel_rfl) hL17 (.tmp (t := 3) (by kernel_rfl) .nil)) ha (by kernel_rfl)) ⟨none, 0, none, 0, Z, Hp.le_refl _, rfl, (RdS.nil _ _ _ _ _ (Nat.zero_le _)), (RdS.nil _ _ _ _ _ (Nat.zero_le _)), hI⟩
      · rw [if_neg hb16] at h1
        refine CodT.no' (b := !y15) (by kernel_rfl) (by simpa using hb16) ?_
        refine CodT.skip ?_
        refine Qn.then ?_
        refine CodT.seq ?_
        refine CodT.regionL [0, 1, 2, 3, 4, 5, 6, 7] (by kernel_rfl) ?_
        refine OpsT.pures (r := [1, 2, 3, 4, 5, 6, 7]) [0] [0, 2, 4, 5, 31] (S' := [(0, .slice A_a0 a0.length c_a0), (2, .pointer (some ⟨b1, 0, none⟩)), (4, .string x3), (5, .int .i64 x4), (31, .string y14)]) (by kernel_rfl) ?_
        obtain ⟨⟨y19, y20, y21⟩, hc18, h1⟩ := bindS h1
        try dsimp only at h1
        refine OpsT.cons (Does.call (d := some 32) (n := 57) (vs := [.string y14]) (by kernel_rfl) en57 (c57 w0 w _ _ hI y14 _ hc18) ?_)
        rintro e w ⟨rfl, hI⟩
        refine ⟨_, rfl, ?_⟩
        refine OpsT.pures (r := []) [2, 3, 4, 5, 6, 7] [0, 2, 4, 5, 7, 8] (S' := [(0, .slice A_a0 a0.length c_a0), (2, .pointer (some ⟨b1, 0, none⟩)), (4, .string x3), (5, .int .i64 x4), (7, .string y20), (8, .bool y21)]) (by kernel_rfl) ?_
        refine OpsT.done ?_
        refine Qn.then ?_
        refine CodT.seq ?_
        refine CodT.seq ?_
        refine CodT.regionL [0, 1] (by kernel_rfl) ?_
        refine OpsT.pures (r := []) [0, 1] [0, 2, 4, 5, 7, 37] (S' := [(0, .slice A_a0 a0.length c_a0), (2, .pointer (some ⟨b1, 0, none⟩)), (4, .string x3), (5, .int .i64 x4), (7, .string y20), (37, .bool (!y21))]) (by kernel_rfl) ?_
        refine OpsT.done ?_
        refine Qn.then ?_
        by_cases hb22 : (!y21) = true
        · rw [if_pos hb22] at h1
          refine CodT.yes' (b := !y21) (by kernel_rfl) hb22 ?_
          refine CodT.seq ?_
          refine CodT.regionL [0, 1, 2] (by kernel_rfl) ?_
          refine OpsT.pures (r := [1, 2]) [0] [2, 38] (S' := [(2, .pointer (some ⟨b1, 0, none⟩)), (38, .agg ((([.slice none 0 0, .slice none 0 0] : List Value))).toArray)]) (by kernel_rfl) ?_
          refine OpsT.cons (Does.storeLit (T := 30) (b := b1) (o := 0) (v := .agg ((([.slice none 0 0, .slice none 0 0] : List Value))).toArray) (l := (([.slice none 0 0, .slice none 0 0] : List Value))) (vs := (([.slice none 0 0, .slice none 0 0] : List Value))) (L' := (([.slice none 0 0, .slice none 0 0] : List Value))) (by kernel_rfl) ty30 hI (by kernel_rfl) (by kernel_rfl) (by kernel_rfl) (by kernel_rfl) (by kernel_rfl) ?_)
          intro w hI
          refine OpsT.pures (r := []) [2] [2, 3] (S' := [(2, .pointer (some ⟨b1, 0, none⟩)), (3, .bool false)]) (by kernel_rfl) ?_
          refine OpsT.done ?_
          refine Qn.then ?_
          refine CodT.ret ?_
          refine Qn.ret_then ?_
          refine Qn.block_ret ?_
          refine Qn.ret_then ?_
          refine Qn.ret_then ?_
          refine Qn.block_ret ?_
          refine Qn.ret_then ?_
          refine Qn.ret_then ?_
          have hL23 := (ldBN ty30 (l := (([.slice none 0 0, .slice none 0 0] : List Value))) (o := 0) (cs := (([.slice none 0 0, .slice none 0 0] : List Value))) (ent_refl _) (by kernel_rfl) (whole _ _ (by kernel_rfl))) w hI
          have hI := hI.drop
          have e := someS h1
          subst e
          try dsimp only at h0
          have e := someS h0
          subst e
          refine Qn.keep [2, 3] (S' := [(2, .pointer (some ⟨b1, 0, none⟩)), (3, .bool false)]) (by kernel_rfl) ?_
          exact post_ret (v := .tuple #[.agg ((([.slice none 0 0, .slice none 0 0] : List Value))).toArray, .bool false]) (fun a ha => RunRes.run (vs := [.agg ((([.slice none 0 0, .slice none 0 0] : List Value))).toArray, .bool false]) (.cell (t := 2) (T := 30) (ad := ⟨b1, 0, none⟩) (by kernel_rfl) hL23 (.tmp (t := 3) (by kernel_rfl) .nil)) ha (by kernel_rfl)) ⟨none, 0, none, 0, Z, Hp.le_refl _, rfl, (RdS.nil _ _ _ _ _ (Nat.zero_le _)), (RdS.nil _ _ _ _ _ (Nat.zero_le _)), hI⟩
        · rw [if_neg hb22] at h1
          refine CodT.no' (b := !y21) (by kernel_rfl) (by simpa using hb22) ?_
          refine CodT.skip ?_
          refine Qn.then ?_
          refine CodT.regionL [0, 1, 2, 3] (by kernel_rfl) ?_
          refine OpsT.pures (r := [2, 3]) [0, 1] [0, 2, 5, 39, 40] (S' := [(0, .slice A_a0 a0.length c_a0), (2, .pointer (some ⟨b1, 0, none⟩)), (5, .int .i64 x4), (39, .string x3), (40, .string y20)]) (by kernel_rfl) ?_
          obtain ⟨hg24, h1⟩ := guardS h1
          refine OpsT.cons (Does.yi (Yl.cat (d := 41) (T := 9) (x := x3) (y := y20) (by kernel_rfl) hg24) hI ?_)
          refine OpsT.pures (r := []) [3] [0, 2, 4, 5] (S' := [(0, .slice A_a0 a0.length c_a0), (2, .pointer (some ⟨b1, 0, none⟩)), (4, .string (x3 ++ y20)), (5, .int .i64 x4)]) (by kernel_rfl) ?_
          refine OpsT.done ?_
          refine Qn.block_normal ?_
          refine Qn.then ?_
          refine CodT.regionL [0, 1, 2] (by kernel_rfl) ?_
          refine OpsT.pures (r := []) [0, 1, 2] [0, 2, 4, 5] (S' := [(0, .slice A_a0 a0.length c_a0), (2, .pointer (some ⟨b1, 0, none⟩)), (4, .string (x3 ++ y20)), (5, .int .i64 (wi64 (x4 + 1)))]) (by kernel_rfl) ?_
          refine OpsT.done ?_
          exact Qn.thenJ fun a ha => ⟨k, Nat.lt_succ_self k, x3 ++ y20, wi64 (x4 + 1), h1, ha.keep [0, 2, 4, 5] (by kernel_rfl), hI⟩
    · rw [if_neg hb5] at h1
      refine CodT.no' (b := decide (x4 < (a0.length : Int))) (by kernel_rfl) (by simpa using hb5) ?_
      refine CodT.exit ?_
      refine Qn.exit_then ?_
      refine Qn.exit_then ?_
      refine Qn.block ?_
      have e := someS h1
      subst e
      exact Qn.thenJ fun a ha => ⟨x3, rfl, ha.keep [0, 2, 4] (by kernel_rfl), hI⟩
  ·
    rintro a w ⟨x2, rfl, ha, hI⟩
    try dsimp only at h0
    refine Qn.of ?_ ha
    refine Qn.then ?_
    refine CodT.seq ?_
    refine CodT.regionL [0, 1, 2, 3, 4, 5, 6, 7] (by kernel_rfl) ?_
    refine OpsT.pures (r := [1, 2, 3, 4, 5, 6, 7]) [0] [0, 2, 43] (S' := [(0, .slice A_a0 a0.length c_a0), (2, .pointer (some ⟨b1, 0, none⟩)), (43, .string x2)]) (by kernel_rfl) ?_
    obtain ⟨⟨y26, y30, y34⟩, hc25, h0⟩ := bindS h0
    try dsimp only at h0
    refine OpsT.cons (Does.call (d := some 44) (n := 58) (vs := [.string x2]) (by kernel_rfl) en58 (c58 w0 w _ _ hI x2 _ hc25) ?_)
    rintro e w ⟨A27, cp28, A31, cp32, Z35, hle36, rfl, hr29, hr33, hI⟩
    refine ⟨_, rfl, ?_⟩
    refine OpsT.pures (r := [5, 6, 7]) [2, 3, 4] [0, 2, 45, 46] (S' := [(0, .slice A_a0 a0.length c_a0), (2, .pointer (some ⟨b1, 0, none⟩)), (45, .agg ((([.slice A27 y26.length cp28, .slice A31 y30.length cp32] : List Value))).toArray), (46, .bool y34)]) (by kernel_rfl) ?_
    refine OpsT.cons (Does.allocL (d := 9) (T := 30) ((([.slice none 0 0, .slice none 0 0] : List Value))) (by kernel_rfl) ty30 hI (by kernel_rfl) ?_)
    intro b37 w hI
    refine OpsT.cons (Does.storeLit (T := 30) (b := b37) (o := 0) (v := .agg ((([.slice A27 y26.length cp28, .slice A31 y30.length cp32] : List Value))).toArray) (l := (([.slice none 0 0, .slice none 0 0] : List Value))) (vs := (([.slice A27 y26.length cp28, .slice A31 y30.length cp32] : List Value))) (L' := (([.slice A27 y26.length cp28, .slice A31 y30.length cp32] : List Value))) (by kernel_rfl) ty30 hI (by kernel_rfl) (by kernel_rfl) (by kernel_rfl) (by kernel_rfl) (by kernel_rfl) ?_)
    intro w hI
    refine OpsT.pures (r := []) [7] [0, 2, 9, 10] (S' := [(0, .slice A_a0 a0.length c_a0), (2, .pointer (some ⟨b1, 0, none⟩)), (9, .pointer (some ⟨b37, 0, none⟩)), (10, .bool y34)]) (by kernel_rfl) ?_
    refine OpsT.done ?_
    refine Qn.then ?_
    refine CodT.seq ?_
    refine CodT.seq ?_
    refine CodT.regionL [0] (by kernel_rfl) ?_
    refine OpsT.pures (r := []) [0] [0, 2, 9, 10, 11] (S' := [(0, .slice A_a0 a0.length c_a0), (2, .pointer (some ⟨b1, 0, none⟩)), (9, .pointer (some ⟨b37, 0, none⟩)), (10, .bool y34), (11, .int .i64 8)]) (by kernel_rfl) ?_
    refine OpsT.done ?_
    refine Qn.then ?_
    obtain ⟨r1, h1, h0⟩ := bindS h0
    refine CodT.meet1 (fun a w => ∃ (Z38 : Hp), .inr () = r1 ∧ Fr 61 [(2, .pointer (some ⟨b1, 0, none⟩))] a ∧ Inv w0 Z38 w (star (pt b1 (.cells ((([.slice none 0 0, .slice none 0 0] : List Value))).toArray 30 (0, 0))) A) ∧ Z35.le Z38) ?_ ?_
    ·
      refine CodT.block ?_
      refine (fun a ha => wp_loopN (fun k a w => ∃ (x42 : Int) (Z40 : Hp), ref15_Get.l1 y34 y26 y30 a0 k x42 = some r1 ∧ Fr 61 [(0, .slice A_a0 a0.length c_a0), (2, .pointer (some ⟨b1, 0, none⟩)), (9, .pointer (some ⟨b37, 0, none⟩)), (10, .bool y34), (11, .int .i64 x42)] a ∧ Inv w0 Z40 w (star (pt b37 (.cells ((([.slice A27 y26.length cp28, .slice A31 y30.length cp32] : List Value))).toArray 30 (0, 0))) (star (pt b1 (.cells ((([.slice none 0 0, .slice none 0 0] : List Value))).toArray 30 (0, 0))) A)) ∧ Z35.le Z40) ?_ FU a w ⟨8, Z35, h1, ha.keep [0, 2, 9, 10, 11] (by kernel_rfl), hI, (Hp.le_refl _)⟩)
      clear h1 hI
      rintro k a w ⟨x42, Z40, h1, ha, hI, hle41⟩
      rcases k with _ | k
      · cases h1
      simp only [ref15_Get.l1] at h1
      refine CodT.of ?_ ha
      refine CodT.seq ?_
      obtain ⟨r2, h2, h1⟩ := bindS h1
      refine CodT.meet (fun a w => ∃ (x43 : Bool), x43 = r2 ∧ Fr 61 [(0, .slice A_a0 a0.length c_a0), (2, .pointer (some ⟨b1, 0, none⟩)), (9, .pointer (some ⟨b37, 0, none⟩)), (10, .bool y34), (11, .int .i64 x42), (51, .bool x43)] a ∧ Inv w0 Z40 w (star (pt b37 (.cells ((([.slice A27 y26.length cp28, .slice A31 y30.length cp32] : List Value))).toArray 30 (0, 0))) (star (pt b1 (.cells ((([.slice none 0 0, .slice none 0 0] : List Value))).toArray 30 (0, 0))) A))) ?_ ?_
      ·
        refine CodT.regionL [0, 1, 2, 3, 4] (by kernel_rfl) ?_
        refine OpsT.pures (r := [3, 4]) [0, 1, 2] [0, 2, 9, 10, 11, 49] (S' := [(0, .slice A_a0 a0.length c_a0), (2, .pointer (some ⟨b1, 0, none⟩)), (9, .pointer (some ⟨b37, 0, none⟩)), (10, .bool y34), (11, .int .i64 x42), (49, .bool (decide (x42 ≤ 224)))]) (by kernel_rfl) ?_
        by_cases hb44 : (decide (x42 ≤ 224)) = true
        · rw [if_pos hb44] at h2
          refine OpsT.keep [0, 2, 9, 10, 11, 49] (S' := [(0, .slice A_a0 a0.length c_a0), (2, .pointer (some ⟨b1, 0, none⟩)), (9, .pointer (some ⟨b37, 0, none⟩)), (10, .bool y34), (11, .int .i64 x42), (49, .bool true)]) (by simp only [hb44]; kernel_rfl) ?_
          refine OpsT.pures (r := []) [3, 4] [0, 2, 9, 10, 11, 51] (S' := [(0, .slice A_a0 a0.length c_a0), (2, .pointer (some ⟨b1, 0, none⟩)), (9, .pointer (some ⟨b37, 0, none⟩)), (10, .bool y34), (11, .int .i64 x42), (51, .bool y34)]) (by kernel_rfl) ?_
          refine OpsT.done ?_
          have e := someS h2
          subst e
          exact Qn.thenJ fun a ha => ⟨y34, rfl, ha.keep [0, 2, 9, 10, 11, 51] (by kernel_rfl), hI⟩
        · rw [if_neg hb44] at h2
          have hb44 : (decide (x42 ≤ 224)) = false := by simpa using hb44
          refine OpsT.keep [0, 2, 9, 10, 11, 49] (S' := [(0, .slice A_a0 a0.length c_a0), (2, .pointer (some ⟨b1, 0, none⟩)), (9, .pointer (some ⟨b37, 0, none⟩)), (10, .bool y34), (11, .int .i64 x42), (49, .bool false)]) (by simp only [hb44]; kernel_rfl) ?_
          refine OpsT.pures (r := []) [3, 4] [0, 2, 9, 10, 11, 51] (S' := [(0, .slice A_a0 a0.length c_a0), (2, .pointer (some ⟨b1, 0, none⟩)), (9, .pointer (some ⟨b37, 0, none⟩)), (10, .bool y34), (11, .int .i64 x42), (51, .bool false)]) (by kernel_rfl) ?_
          refine OpsT.done ?_
          have e := someS h2
          subst e
          exact Qn.thenJ fun a ha => ⟨false, rfl, ha.keep [0, 2, 9, 10, 11, 51] (by kernel_rfl), hI⟩
      ·
        rintro a w ⟨x43, rfl, ha, hI⟩
        try dsimp only at h1
        refine CodT.of ?_ ha
        by_cases hb45 : x43 = true
        · rw [if_pos hb45] at h1
          refine CodT.yes' (b := x43) (by kernel_rfl) hb45 ?_
          refine CodT.skip ?_
          refine Qn.then ?_
          refine CodT.seq ?_
          refine CodT.block ?_
          refine CodT.seq ?_
          refine CodT.regionL [0, 1, 2, 3, 4] (by kernel_rfl) ?_
          refine OpsT.cons (Does.yi (Yl.load (d := 54) (T := 30) (v := .agg ((([.slice A27 y26.length cp28, .slice A31 y30.length cp32] : List Value))).toArray) (by kernel_rfl) (ldBN ty30 (l := (([.slice A27 y26.length cp28, .slice A31 y30.length cp32] : List Value))) (o := 0) (cs := (([.slice A27 y26.length cp28, .slice A31 y30.length cp32] : List Value))) (ent_refl _) (by kernel_rfl) (whole _ _ (by kernel_rfl)))) hI ?_)
          refine OpsT.pures (r := [2, 3, 4]) [1] [0, 2, 9, 10, 11, 54, 55] (S' := [(0, .slice A_a0 a0.length c_a0), (2, .pointer (some ⟨b1, 0, none⟩)), (9, .pointer (some ⟨b37, 0, none⟩)), (10, .bool y34), (11, .int .i64 x42), (54, .agg ((([.slice A27 y26.length cp28, .slice A31 y30.length cp32] : List Value))).toArray), (55, .int .i64 x42)]) (by kernel_rfl) ?_
          obtain ⟨y47, hc46, h1⟩ := bindS h1
          try dsimp only at h1
          refine OpsT.cons (Does.call (d := some 56) (n := 18) (vs := [.agg ((([.slice A27 y26.length cp28, .slice A31 y30.length cp32] : List Value))).toArray, .int .i64 x42]) (by kernel_rfl) en18 (c18 w0 w _ _ hI A27 cp28 y26 (hr29.mono hle41) A31 cp32 y30 (hr33.mono hle41) x42 _ hc46) ?_)
          rintro e w ⟨A48, cp49, rfl, hI⟩
          refine ⟨_, rfl, ?_⟩
          refine OpsT.pures (r := [4]) [3] [0, 2, 9, 10, 11, 56, 57] (S' := [(0, .slice A_a0 a0.length c_a0), (2, .pointer (some ⟨b1, 0, none⟩)), (9, .pointer (some ⟨b37, 0, none⟩)), (10, .bool y34), (11, .int .i64 x42), (56, .slice A48 y47.length cp49), (57, .slice A_a0 a0.length c_a0)]) (by kernel_rfl) ?_
          obtain ⟨Z50, hle51, hr52, hI⟩ := ownS_freeze hI
          obtain ⟨y54, hc53, h1⟩ := bindS h1
          try dsimp only at h1
          refine OpsT.cons (Does.call (d := some 58) (n := 59) (vs := [.slice A48 y47.length cp49, .slice A_a0 a0.length c_a0]) (by kernel_rfl) en59 (c59 w0 w _ _ hI A48 cp49 y47 hr52 A_a0 c_a0 a0 (hr_a0.mono (Hp.le_trans (Hp.le_trans hle36 hle41) hle51)) _ hc53) ?_)
          rintro e w ⟨rfl, hI⟩
          refine ⟨_, rfl, ?_⟩
          refine OpsT.done ?_
          refine Qn.then ?_
          by_cases hb55 : y54 = true
          · rw [if_pos hb55] at h1
            refine CodT.yes' (b := y54) (by kernel_rfl) hb55 ?_
            refine CodT.seq ?_
            refine CodT.regionL [0, 1, 2] (by kernel_rfl) ?_
            refine OpsT.cons (Does.yi (Yl.load (d := 59) (T := 30) (v := .agg ((([.slice A27 y26.length cp28, .slice A31 y30.length cp32] : List Value))).toArray) (by kernel_rfl) (ldBN ty30 (l := (([.slice A27 y26.length cp28, .slice A31 y30.length cp32] : List Value))) (o := 0) (cs := (([.slice A27 y26.length cp28, .slice A31 y30.length cp32] : List Value))) (ent_refl _) (by kernel_rfl) (whole _ _ (by kernel_rfl)))) hI ?_)
            have hI := hI.mono (pick2 _ _ _)
            refine OpsT.cons (Does.storeLit (T := 30) (b := b1) (o := 0) (v := .agg ((([.slice A27 y26.length cp28, .slice A31 y30.length cp32] : List Value))).toArray) (l := (([.slice none 0 0, .slice none 0 0] : List Value))) (vs := (([.slice A27 y26.length cp28, .slice A31 y30.length cp32] : List Value))) (L' := (([.slice A27 y26.length cp28, .slice A31 y30.length cp32] : List Value))) (by kernel_rfl) ty30 hI (by kernel_rfl) (by kernel_rfl) (by kernel_rfl) (by kernel_rfl) (by kernel_rfl) ?_)
            intro w hI
            refine OpsT.pures (r := []) [2] [2, 3] (S' := [(2, .pointer (some ⟨b1, 0, none⟩)), (3, .bool true)]) (by kernel_rfl) ?_
            refine OpsT.done ?_
            refine Qn.then ?_
            refine CodT.ret ?_
            refine Qn.block_ret ?_
            refine Qn.ret_then ?_
            refine Qn.ret_then ?_
            refine Qn.block_ret ?_
            refine Qn.ret_then ?_
            refine Qn.ret_then ?_
            have hL56 := (ldBN ty30 (l := (([.slice A27 y26.length cp28, .slice A31 y30.length cp32] : List Value))) (o := 0) (cs := (([.slice A27 y26.length cp28, .slice A31 y30.length cp32] : List Value))) (ent_refl _) (by kernel_rfl) (whole _ _ (by kernel_rfl))) w hI
            have hI := hI.drop
            have hI := hI.drop
            have e := someS h1
            subst e
            try dsimp only at h0
            have e := someS h0
            subst e
            refine Qn.keep [2, 3] (S' := [(2, .pointer (some ⟨b1, 0, none⟩)), (3, .bool true)]) (by kernel_rfl) ?_
            exact post_ret (v := .tuple #[.agg ((([.slice A27 y26.length cp28, .slice A31 y30.length cp32] : List Value))).toArray, .bool true]) (fun a ha => RunRes.run (vs := [.agg ((([.slice A27 y26.length cp28, .slice A31 y30.length cp32] : List Value))).toArray, .bool true]) (.cell (t := 2) (T := 30) (ad := ⟨b1, 0, none⟩) (by kernel_rfl) hL56 (.tmp (t := 3) (by kernel_rfl) .nil)) ha (by kernel_rfl)) ⟨A27, cp28, A31, cp32, Z50, (Hp.le_trans (Hp.le_trans hle36 hle41) hle51), rfl, (hr29.mono (Hp.le_trans hle41 hle51)), (hr33.mono (Hp.le_trans hle41 hle51)), hI⟩
          · rw [if_neg hb55] at h1
            refine CodT.no' (b := y54) (by kernel_rfl) (by simpa using hb55) ?_
            refine CodT.skip ?_
            refine Qn.block_normal ?_
            refine Qn.then ?_
            refine CodT.regionL [0, 1, 2] (by kernel_rfl) ?_
            refine OpsT.pures (r := []) [0, 1, 2] [0, 2, 9, 10, 11] (S' := [(0, .slice A_a0 a0.length c_a0), (2, .pointer (some ⟨b1, 0, none⟩)), (9, .pointer (some ⟨b37, 0, none⟩)), (10, .bool y34), (11, .int .i64 (wi64 (x42 + 1)))]) (by kernel_rfl) ?_
            refine OpsT.done ?_
            exact Qn.thenJ fun a ha => ⟨k, Nat.lt_succ_self k, wi64 (x42 + 1), Z50, h1, ha.keep [0, 2, 9, 10, 11] (by kernel_rfl), hI, (Hp.le_trans hle41 hle51)⟩
        · rw [if_neg hb45] at h1
          refine CodT.no' (b := x43) (by kernel_rfl) (by simpa using hb45) ?_
          refine CodT.exit ?_
          refine Qn.exit_then ?_
          refine Qn.exit_then ?_
          refine Qn.block ?_
          have hI := hI.drop
          have e := someS h1
          subst e
          exact Qn.thenJ fun a ha => ⟨Z40, rfl, ha.keep [2] (by kernel_rfl), hI, hle41⟩
    ·
      rintro a w ⟨Z38, rfl, ha, hI, hle39⟩
      try dsimp only at h0
      refine Qn.of ?_ ha
      refine Qn.then ?_
      refine CodT.seq ?_
      refine CodT.regionL [0, 1, 2] (by kernel_rfl) ?_
      refine OpsT.pures (r := [1, 2]) [0] [2, 60] (S' := [(2, .pointer (some ⟨b1, 0, none⟩)), (60, .agg ((([.slice none 0 0, .slice none 0 0] : List Value))).toArray)]) (by kernel_rfl) ?_
      refine OpsT.cons (Does.storeLit (T := 30) (b := b1) (o := 0) (v := .agg ((([.slice none 0 0, .slice none 0 0] : List Value))).toArray) (l := (([.slice none 0 0, .slice none 0 0] : List Value))) (vs := (([.slice none 0 0, .slice none 0 0] : List Value))) (L' := (([.slice none 0 0, .slice none 0 0] : List Value))) (by kernel_rfl) ty30 hI (by kernel_rfl) (by kernel_rfl) (by kernel_rfl) (by kernel_rfl) (by kernel_rfl) ?_)
      intro w hI
      refine OpsT.pures (r := []) [2] [2, 3] (S' := [(2, .pointer (some ⟨b1, 0, none⟩)), (3, .bool false)]) (by kernel_rfl) ?_
      refine OpsT.done ?_
      refine Qn.then ?_
      refine CodT.ret ?_
      have hL57 := (ldBN ty30 (l := (([.slice none 0 0, .slice none 0 0] : List Value))) (o := 0) (cs := (([.slice none 0 0, .slice none 0 0] : List Value))) (ent_refl _) (by kernel_rfl) (whole _ _ (by kernel_rfl))) w hI
      have hI := hI.drop
      have e := someS h0
      subst e
      refine Qn.keep [2, 3] (S' := [(2, .pointer (some ⟨b1, 0, none⟩)), (3, .bool false)]) (by kernel_rfl) ?_
      exact post_ret (v := .tuple #[.agg ((([.slice none 0 0, .slice none 0 0] : List Value))).toArray, .bool false]) (fun a ha => RunRes.run (vs := [.agg ((([.slice none 0 0, .slice none 0 0] : List Value))).toArray, .bool false]) (.cell (t := 2) (T := 30) (ad := ⟨b1, 0, none⟩) (by kernel_rfl) hL57 (.tmp (t := 3) (by kernel_rfl) .nil)) ha (by kernel_rfl)) ⟨none, 0, none, 0, Z38, (Hp.le_trans hle36 hle39), rfl, (RdS.nil _ _ _ _ _ (Nat.zero_le _)), (RdS.nil _ _ _ _ _ (Nat.zero_le _)), hI⟩
end Go.Cen
