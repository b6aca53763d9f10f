/- That the machine computes these: walks, printed by a program of ours. -/
import Derived.Test.YthdoklobbcedcacDoorPx
import Derived.Test.YthdoklobbcedcacDoorWx0
set_option linter.unusedVariables false
set_option linter.unusedSimpArgs false
namespace Go.Cen
set_option maxRecDepth 100000 in
set_option maxHeartbeats 4000000 in
/-- cenotaph/rule.due$1 -/
theorem c56 (w0 w : World) (Z : Hp) (A : HP)  (hT : Tabs Z) (l_a0 : Nat) {σ : Type} (J_a0 : σ → HP) (Y_a0 : σ → Int → ByteArray → ByteArray → Bool → Int → (List ByteArray) → Option σ) (s_a0 : σ) (hy_a0 : ∀ (w : World) (Z' : Hp) (R : HP) (s : σ) (x0 : Int) (x1 : ByteArray) (x2 : ByteArray) (x3 : Bool) (x4 : Int) (x5 : Option Addr) (x6 : Nat) (x7 : (List ByteArray)) (r : σ), RdS Z' cS 1 x5 x6 x7 → Z.le Z' → Y_a0 s x0 x1 x2 x3 x4 x7 = some r → Inv w0 Z' w (star (J_a0 s) R) → YAt prog l_a0 [.agg ((([.int .i64 x0, .string x1, .string x2, .bool x3, .int .i64 x4, .slice x5 x7.length x6] : List Value))).toArray] w (fun e w' => e = .returned (.bool true) ∧ Inv w0 Z' w' (star (J_a0 r) R))) (b_a1 : Nat) (A_a1_v : Option Addr) (c_a1_v : Nat) (a1_v : (List ApiFile)) (hr_a1_v : RdX_ApiFile Z A_a1_v c_a1_v a1_v) (hz_a1 : Z b_a1 = some (.cells (([.slice A_a1_v a1_v.length c_a1_v] : List Value)).toArray 22 (0, 0))) (b_a2 : Nat) (a2_v : Int) (hz_a2 : Z b_a2 = some (.cells (([.int .i64 a2_v] : List Value)).toArray 3 (0, 0))) (hI : Inv w0 Z w (star (J_a0 s_a0) A)) (r : σ) (h0 : rule_due_1 Y_a0 s_a0 a1_v a2_v = some r) :
    Calls prog 56 #[.func (.yield l_a0) #[] #[], .pointer (some ⟨b_a1, 0, none⟩), .pointer (some ⟨b_a2, 0, none⟩)] w (fun e w' => e = .returned (.tuple #[]) ∧ Inv w0 Z w' (star (J_a0 r) A)) := by
  have e4 := calls_intro (R := (fun e w' => e = .returned (.tuple #[]) ∧ Inv w0 Z w' (star (J_a0 r) A))) (w := w) (args := [.func (.yield l_a0) #[] #[], .pointer (some ⟨b_a1, 0, none⟩), .pointer (some ⟨b_a2, 0, none⟩)]) (fn := Go.Proofs.Tryd.f56) 23 Go.Proofs.Tryd.func56 (by rfl) Go.Proofs.Tryd.ntmps56 (by kernel_rfl)
  refine e4 ?_
  clear e4
  unfold rule_due_1 at h0
  refine CodT.seq ?_
  refine CodT.regionL [0, 1, 2] (by kernel_rfl) ?_
  refine OpsT.cons (Does.yi (Yl.load (d := 6) (T := 22) (v := .slice A_a1_v a1_v.length c_a1_v) (by kernel_rfl) (ldZ ty22 (l := ([.slice A_a1_v a1_v.length c_a1_v] : List Value)) (o := 0) (v := .slice A_a1_v a1_v.length c_a1_v) hz_a1 (by kernel_rfl))) hI ?_)
  refine OpsT.pures (r := []) [1, 2] [0, 2, 6, 7, 8] (S' := [(0, .func (.yield l_a0) #[] #[]), (2, .pointer (some ⟨b_a2, 0, none⟩)), (6, .slice A_a1_v a1_v.length c_a1_v), (7, .int .i64 (a1_v.length : Int)), (8, .int .i64 0)]) (by kernel_rfl) ?_
  refine OpsT.done ?_
  refine Qn.then ?_
  obtain ⟨r1, h1, h0⟩ := bindS h0
  refine CodT.meet1 (fun a w => ∃ (x1 : σ), .inr x1 = r1 ∧ Fr 23 [] a ∧ Inv w0 Z w (star (J_a0 x1) A)) ?_ ?_
  ·
    refine CodT.block ?_
    refine (fun a ha => wp_loopN (fun k a w => ∃ (x2 : Int) (x3 : σ), rule_due_1.l0 a1_v a2_v Y_a0 k x2 x3 = some r1 ∧ Fr 23 [(0, .func (.yield l_a0) #[] #[]), (2, .pointer (some ⟨b_a2, 0, none⟩)), (6, .slice A_a1_v a1_v.length c_a1_v), (7, .int .i64 (a1_v.length : Int)), (8, .int .i64 x2)] a ∧ Inv w0 Z w (star (J_a0 x3) A)) ?_ FU a w ⟨0, s_a0, h1, ha.keep [0, 2, 6, 7, 8] (by kernel_rfl), hI⟩)
    clear h1 hI
    rintro k a w ⟨x2, x3, h1, ha, hI⟩
    rcases k with _ | k
    · cases h1
    simp only [rule_due_1.l0] at h1
    refine CodT.of ?_ ha
    refine CodT.seq ?_
    refine CodT.regionL [0] (by kernel_rfl) ?_
    refine OpsT.pures (r := []) [0] [0, 2, 6, 7, 8, 9] (S' := [(0, .func (.yield l_a0) #[] #[]), (2, .pointer (some ⟨b_a2, 0, none⟩)), (6, .slice A_a1_v a1_v.length c_a1_v), (7, .int .i64 (a1_v.length : Int)), (8, .int .i64 x2), (9, .bool (decide (x2 < (a1_v.length : Int))))]) (by kernel_rfl) ?_
    refine OpsT.done ?_
    refine Qn.then ?_
    refine CodT.seq ?_
    by_cases hb4 : (decide (x2 < (a1_v.length : Int))) = true
    · rw [if_pos hb4] at h1
      refine CodT.yes' (b := decide (x2 < (a1_v.length : Int))) (by kernel_rfl) hb4 ?_
      refine CodT.skip ?_
      refine Qn.then ?_
      refine CodT.seq ?_
      refine CodT.block ?_
      refine CodT.seq ?_
      refine CodT.regionL [0, 1, 2, 3] (by kernel_rfl) ?_
      obtain ⟨hg5, h1⟩ := guardS h1
      obtain ⟨g6, o10, A11, cp12, hA7, hr8, hr13⟩ := RdX_ApiFile.get hr_a1_v hg5.1 hg5.2
      refine OpsT.cons (Does.yi (Yl.indexSlice (d := 10) (T := 22) (cc := c_a1_v) (k := .i64) (j := x2) (g := g6) (o := o10) (by kernel_rfl) Go.Proofs.Tryd.underlying22 ty27 hA7 hg5.1 hg5.2) hI ?_)
      refine OpsT.cons (Does.yi (Yl.load (d := 11) (T := 27) (v := .agg ((([.int .i64 ((gt a1_v x2).ID), .string ((gt a1_v x2).Name), .string ((gt a1_v x2).Data), .bool ((gt a1_v x2).Sealed), .int .i64 ((gt a1_v x2).Until), .slice A11 (((gt a1_v x2).Holds).length) cp12] : List Value))).toArray) (by kernel_rfl) (ldRN ty27 (cs := (([.int .i64 ((gt a1_v x2).ID), .string ((gt a1_v x2).Name), .string ((gt a1_v x2).Data), .bool ((gt a1_v x2).Sealed), .int .i64 ((gt a1_v x2).Until), .slice A11 (((gt a1_v x2).Holds).length) cp12] : List Value))) 0 (fun w hC => hr8 w0 w _ hC) (by kernel_rfl) (whole _ _ (by kernel_rfl)))) hI ?_)
      refine OpsT.cons (Does.allocL (d := 5) (T := 27) ((([.int .i64 0, .string (⟨#[]⟩ : ByteArray), .string (⟨#[]⟩ : ByteArray), .bool false, .int .i64 0, .slice none 0 0] : List Value))) (by kernel_rfl) ty27 hI (by kernel_rfl) ?_)
      intro b14 w hI
      refine OpsT.cons (Does.storeLit (T := 27) (b := b14) (o := 0) (v := .agg ((([.int .i64 ((gt a1_v x2).ID), .string ((gt a1_v x2).Name), .string ((gt a1_v x2).Data), .bool ((gt a1_v x2).Sealed), .int .i64 ((gt a1_v x2).Until), .slice A11 (((gt a1_v x2).Holds).length) cp12] : List Value))).toArray) (l := (([.int .i64 0, .string (⟨#[]⟩ : ByteArray), .string (⟨#[]⟩ : ByteArray), .bool false, .int .i64 0, .slice none 0 0] : List Value))) (vs := (([.int .i64 ((gt a1_v x2).ID), .string ((gt a1_v x2).Name), .string ((gt a1_v x2).Data), .bool ((gt a1_v x2).Sealed), .int .i64 ((gt a1_v x2).Until), .slice A11 (((gt a1_v x2).Holds).length) cp12] : List Value))) (L' := (([.int .i64 ((gt a1_v x2).ID), .string ((gt a1_v x2).Name), .string ((gt a1_v x2).Data), .bool ((gt a1_v x2).Sealed), .int .i64 ((gt a1_v x2).Until), .slice A11 (((gt a1_v x2).Holds).length) cp12] : List Value))) (by kernel_rfl) ty27 hI (by kernel_rfl) (by kernel_rfl) (by kernel_rfl) (by kernel_rfl) (by kernel_rfl) ?_)
      intro w hI
      refine OpsT.done ?_
      refine Qn.then ?_
      obtain ⟨r2, h2, h1⟩ := bindS h1
      refine CodT.meet (fun a w => ∃ (x15 : Bool) (x16 : σ), (x15, x16) = r2 ∧ Fr 23 [(0, .func (.yield l_a0) #[] #[]), (2, .pointer (some ⟨b_a2, 0, none⟩)), (6, .slice A_a1_v a1_v.length c_a1_v), (7, .int .i64 (a1_v.length : Int)), (8, .int .i64 x2), (21, .bool x15)] a ∧ Inv w0 Z w (star (J_a0 x16) A)) ?_ ?_
      ·
        refine CodT.regionL [0, 1, 2, 3, 4, 5, 6, 7, 8, 9] (by kernel_rfl) ?_
        refine OpsT.cons (Does.yi (Yl.load (d := 12) (T := 27) (v := .agg ((([.int .i64 ((gt a1_v x2).ID), .string ((gt a1_v x2).Name), .string ((gt a1_v x2).Data), .bool ((gt a1_v x2).Sealed), .int .i64 ((gt a1_v x2).Until), .slice A11 (((gt a1_v x2).Holds).length) cp12] : List Value))).toArray) (by kernel_rfl) (ldBN ty27 (l := (([.int .i64 ((gt a1_v x2).ID), .string ((gt a1_v x2).Name), .string ((gt a1_v x2).Data), .bool ((gt a1_v x2).Sealed), .int .i64 ((gt a1_v x2).Until), .slice A11 (((gt a1_v x2).Holds).length) cp12] : List Value))) (o := 0) (cs := (([.int .i64 ((gt a1_v x2).ID), .string ((gt a1_v x2).Name), .string ((gt a1_v x2).Data), .bool ((gt a1_v x2).Sealed), .int .i64 ((gt a1_v x2).Until), .slice A11 (((gt a1_v x2).Holds).length) cp12] : List Value))) (ent_refl _) (by kernel_rfl) (whole _ _ (by kernel_rfl)))) hI ?_)
        refine OpsT.cons (Does.yi (Yl.load (d := 13) (T := 3) (v := .int .i64 a2_v) (by kernel_rfl) (ldZ ty3 (l := ([.int .i64 a2_v] : List Value)) (o := 0) (v := .int .i64 a2_v) hz_a2 (by kernel_rfl))) hI ?_)
        obtain ⟨y18, hc17, h2⟩ := bindS h2
        try dsimp only at h2
        refine OpsT.cons (Does.call (d := some 14) (n := 13) (vs := [.agg ((([.int .i64 ((gt a1_v x2).ID), .string ((gt a1_v x2).Name), .string ((gt a1_v x2).Data), .bool ((gt a1_v x2).Sealed), .int .i64 ((gt a1_v x2).Until), .slice A11 (((gt a1_v x2).Holds).length) cp12] : List Value))).toArray, .int .i64 a2_v]) (by kernel_rfl) en13 (c13 w0 w _ _ hI hT ((gt a1_v x2).ID) ((gt a1_v x2).Name) ((gt a1_v x2).Data) ((gt a1_v x2).Sealed) ((gt a1_v x2).Until) A11 cp12 ((gt a1_v x2).Holds) hr13 a2_v _ hc17) ?_)
        rintro e w ⟨rfl, hI⟩
        refine ⟨_, rfl, ?_⟩
        refine OpsT.pures (r := [5, 6, 7, 8, 9]) [3, 4] [0, 2, 5, 6, 7, 8, 16] (S' := [(0, .func (.yield l_a0) #[] #[]), (2, .pointer (some ⟨b_a2, 0, none⟩)), (5, .pointer (some ⟨b14, 0, none⟩)), (6, .slice A_a1_v a1_v.length c_a1_v), (7, .int .i64 (a1_v.length : Int)), (8, .int .i64 x2), (16, .bool (y18 == 0))]) (by kernel_rfl) ?_
        by_cases hb19 : (y18 == 0) = true
        · rw [if_pos hb19] at h2
          refine OpsT.keep [0, 2, 5, 6, 7, 8, 16] (S' := [(0, .func (.yield l_a0) #[] #[]), (2, .pointer (some ⟨b_a2, 0, none⟩)), (5, .pointer (some ⟨b14, 0, none⟩)), (6, .slice A_a1_v a1_v.length c_a1_v), (7, .int .i64 (a1_v.length : Int)), (8, .int .i64 x2), (16, .bool true)]) (by (try simp only [hb19]); kernel_rfl) ?_
          refine OpsT.pures (r := [6, 7, 8, 9]) [5] [0, 2, 5, 6, 7, 8, 16, 17] (S' := [(0, .func (.yield l_a0) #[] #[]), (2, .pointer (some ⟨b_a2, 0, none⟩)), (5, .pointer (some ⟨b14, 0, none⟩)), (6, .slice A_a1_v a1_v.length c_a1_v), (7, .int .i64 (a1_v.length : Int)), (8, .int .i64 x2), (16, .bool true), (17, .func (.yield l_a0) #[] #[])]) (by kernel_rfl) ?_
          refine OpsT.cons (Does.yi (Yl.load (d := 18) (T := 27) (v := .agg ((([.int .i64 ((gt a1_v x2).ID), .string ((gt a1_v x2).Name), .string ((gt a1_v x2).Data), .bool ((gt a1_v x2).Sealed), .int .i64 ((gt a1_v x2).Until), .slice A11 (((gt a1_v x2).Holds).length) cp12] : List Value))).toArray) (by kernel_rfl) (ldBN ty27 (l := (([.int .i64 ((gt a1_v x2).ID), .string ((gt a1_v x2).Name), .string ((gt a1_v x2).Data), .bool ((gt a1_v x2).Sealed), .int .i64 ((gt a1_v x2).Until), .slice A11 (((gt a1_v x2).Holds).length) cp12] : List Value))) (o := 0) (cs := (([.int .i64 ((gt a1_v x2).ID), .string ((gt a1_v x2).Name), .string ((gt a1_v x2).Data), .bool ((gt a1_v x2).Sealed), .int .i64 ((gt a1_v x2).Until), .slice A11 (((gt a1_v x2).Holds).length) cp12] : List Value))) (ent_refl _) (by kernel_rfl) (whole _ _ (by kernel_rfl)))) hI ?_)
          have hI := hI.mono (pick2 _ _ _)
          obtain ⟨y20, hc21, h2⟩ := bindS h2
          try dsimp only at h2
          refine OpsT.cons (Does.yieldCall (d := some 19) (l := l_a0) (vs := [.agg ((([.int .i64 ((gt a1_v x2).ID), .string ((gt a1_v x2).Name), .string ((gt a1_v x2).Data), .bool ((gt a1_v x2).Sealed), .int .i64 ((gt a1_v x2).Until), .slice A11 (((gt a1_v x2).Holds).length) cp12] : List Value))).toArray]) (by kernel_rfl) (hy_a0 w Z _ x3 ((gt a1_v x2).ID) ((gt a1_v x2).Name) ((gt a1_v x2).Data) ((gt a1_v x2).Sealed) ((gt a1_v x2).Until) A11 cp12 ((gt a1_v x2).Holds) y20 hr13 (Hp.le_refl _) hc21 hI) ?_)
          rintro e w ⟨rfl, hI⟩
          refine ⟨_, rfl, ?_⟩
          refine OpsT.pures (r := []) [8, 9] [0, 2, 6, 7, 8, 21] (S' := [(0, .func (.yield l_a0) #[] #[]), (2, .pointer (some ⟨b_a2, 0, none⟩)), (6, .slice A_a1_v a1_v.length c_a1_v), (7, .int .i64 (a1_v.length : Int)), (8, .int .i64 x2), (21, .bool false)]) (by kernel_rfl) ?_
          refine OpsT.done ?_
          have hI := hI.mono (pick2 _ _ _)
          have hI := hI.drop
          have e := someS h2
          subst e
          exact Qn.thenJ fun a ha => ⟨false, y20, rfl, ha.keep [0, 2, 6, 7, 8, 21] (by kernel_rfl), hI⟩
        · rw [if_neg hb19] at h2
          have hb19 : (y18 == 0) = false := by simpa using hb19
          refine OpsT.keep [0, 2, 5, 6, 7, 8, 16] (S' := [(0, .func (.yield l_a0) #[] #[]), (2, .pointer (some ⟨b_a2, 0, none⟩)), (5, .pointer (some ⟨b14, 0, none⟩)), (6, .slice A_a1_v a1_v.length c_a1_v), (7, .int .i64 (a1_v.length : Int)), (8, .int .i64 x2), (16, .bool false)]) (by (try simp only [hb19]); kernel_rfl) ?_
          refine OpsT.pures (r := []) [5, 6, 7, 8, 9] [0, 2, 6, 7, 8, 21] (S' := [(0, .func (.yield l_a0) #[] #[]), (2, .pointer (some ⟨b_a2, 0, none⟩)), (6, .slice A_a1_v a1_v.length c_a1_v), (7, .int .i64 (a1_v.length : Int)), (8, .int .i64 x2), (21, .bool false)]) (by kernel_rfl) ?_
          refine OpsT.done ?_
          have hI := hI.drop
          have e := someS h2
          subst e
          exact Qn.thenJ fun a ha => ⟨false, x3, rfl, ha.keep [0, 2, 6, 7, 8, 21] (by kernel_rfl), hI⟩
      ·
        rintro a w ⟨x15, x16, rfl, ha, hI⟩
        try dsimp only at h1
        refine CodT.of ?_ ha
        by_cases hb22 : x15 = true
        · rw [if_pos hb22] at h1
          refine CodT.yes' (b := x15) (by kernel_rfl) hb22 ?_
          refine CodT.ret ?_
          refine Qn.block_ret ?_
          refine Qn.ret_then ?_
          refine Qn.ret_then ?_
          refine Qn.block_ret ?_
          refine Qn.ret_then ?_
          have e := someS h1
          subst e
          try dsimp only at h0
          have e := someS h0
          subst e
          refine Qn.keep [] (S' := []) (by kernel_rfl) ?_
          exact post_ret (v := .tuple #[]) (fun a ha => RunRes.run (vs := []) .nil ha (by kernel_rfl)) ⟨rfl, hI⟩
        · rw [if_neg hb22] at h1
          refine CodT.no' (b := x15) (by kernel_rfl) (by simpa using hb22) ?_
          refine CodT.skip ?_
          refine Qn.block_normal ?_
          refine Qn.then ?_
          refine CodT.regionL [0, 1] (by kernel_rfl) ?_
          refine OpsT.pures (r := []) [0, 1] [0, 2, 6, 7, 8] (S' := [(0, .func (.yield l_a0) #[] #[]), (2, .pointer (some ⟨b_a2, 0, none⟩)), (6, .slice A_a1_v a1_v.length c_a1_v), (7, .int .i64 (a1_v.length : Int)), (8, .int .i64 (wi64 (x2 + 1)))]) (by kernel_rfl) ?_
          refine OpsT.done ?_
          exact Qn.thenJ fun a ha => ⟨k, Nat.lt_succ_self k, wi64 (x2 + 1), x16, h1, ha.keep [0, 2, 6, 7, 8] (by kernel_rfl), hI⟩
    · rw [if_neg hb4] at h1
      refine CodT.no' (b := decide (x2 < (a1_v.length : Int))) (by kernel_rfl) (by simpa using hb4) ?_
      refine CodT.exit ?_
      refine Qn.exit_then ?_
      refine Qn.exit_then ?_
      refine Qn.block ?_
      have e := someS h1
      subst e
      exact Qn.thenJ fun a ha => ⟨x3, rfl, ha.keep [] (by kernel_rfl), hI⟩
  ·
    rintro a w ⟨x1, rfl, ha, hI⟩
    try dsimp only at h0
    refine Qn.of ?_ ha
    have e := someS h0
    subst e
    refine Qn.keep [] (S' := []) (by kernel_rfl) ?_
    exact post_normal (v := .tuple #[]) (fun a ha => RunRes.run (vs := []) .nil ha (by kernel_rfl)) ⟨rfl, hI⟩
set_option maxRecDepth 100000 in
set_option maxHeartbeats 4000000 in
/-- cenotaph/rule.Due -/
theorem c16 (w0 w : World) (Z : Hp) (A : HP) (hI : Inv w0 Z w A) (hT : Tabs Z) (A_a0 : Option Addr) (c_a0 : Nat) (a0 : (List ApiFile)) (hr_a0 : RdX_ApiFile Z A_a0 c_a0 a0) (a1 : Int) (r : (List Int)) (h0 : rule_Due a0 a1 = some r) :
    Calls prog 16 #[.slice A_a0 a0.length c_a0, .int .i64 a1] w (fun e w' => ∃ (A1 : Option Addr) (c1 : Nat), e = .returned (.slice A1 r.length c1) ∧ Inv w0 Z w' (star (ownS 3 (cI .i64) 1 A1 c1 r) A)) := by
  have e4 := calls_introM (R := (fun e w' => ∃ (A1 : Option Addr) (c1 : Nat), e = .returned (.slice A1 r.length c1) ∧ Inv w0 Z w' (star (ownS 3 (cI .i64) 1 A1 c1 r) A))) (w := w) (args := [.slice A_a0 a0.length c_a0, .int .i64 a1]) (fn := Go.Proofs.Tryd.f16) 17 Go.Proofs.Tryd.func16 (by rfl) Go.Proofs.Tryd.ntmps16 (by kernel_rfl)
  refine e4 ?_
  clear e4
  unfold rule_Due at h0
  refine CodT.seq ?_
  refine CodT.regionL [0] (by kernel_rfl) ?_
  refine OpsT.pures (r := []) [0] [0, 1] (S' := [(0, .slice A_a0 a0.length c_a0), (1, .int .i64 a1)]) (by kernel_rfl) ?_
  refine OpsT.done ?_
  refine Qn.then ?_
  refine CodT.seq ?_
  refine CodT.regionL [0] (by kernel_rfl) ?_
  refine OpsT.cons (Does.allocL (d := 5) (T := 32) (([.slice none 0 0] : List Value)) (by kernel_rfl) ty32 hI (by kernel_rfl) ?_)
  intro b1 w hI
  refine OpsT.done ?_
  refine Qn.then ?_
  refine CodT.seq ?_
  refine CodT.seq ?_
  refine CodT.regionL [0, 1, 2] (by kernel_rfl) ?_
  refine OpsT.pures (r := [2]) [0, 1] [5, 7, 8] (S' := [(5, .pointer (some ⟨b1, 0, none⟩)), (7, .slice A_a0 a0.length c_a0), (8, .int .i64 a1)]) (by kernel_rfl) ?_
  obtain ⟨⟨y4, y10⟩, hc2, h0⟩ := bindS h0
  try dsimp only at h0
  refine OpsT.cons (Does.call (d := some 9) (n := 32) (vs := [.slice A_a0 a0.length c_a0, .int .i64 a1]) (by kernel_rfl) en32 (c32 w0 w _ _ hI hT A_a0 c_a0 a0 hr_a0 a1 _ hc2) ?_)
  rintro e w ⟨b3, A5, cp6, b9, Z12, hle13, rfl, hr7, hz8, hz11, hI⟩
  refine ⟨_, rfl, ?_⟩
  refine OpsT.done ?_
  refine Qn.then ?_
  refine CodT.block ?_
  have hI := ownS_nil (α := Int) hI 3 (cI .i64) 1
  refine CodT.rangeFn (f := 56) (cp := [.pointer (some ⟨b3, 0, none⟩), .pointer (some ⟨b9, 0, none⟩)]) (by kernel_rfl) en56 hI ?_
  intro ac19 l17 rr18 w rc20 fn21 hrc22 ha23 hI
  obtain ⟨J24, hJ25⟩ : ∃ J : (List Int) → HP, J = fun s => match s with | x14 => (hpEx fun (A15 : Option Addr) => (hpEx fun (cp16 : Nat) => (star (ownS 3 (cI .i64) 1 A15 cp16 x14) (star (pt b1 (.cells (([.slice A15 x14.length cp16] : List Value)).toArray 32 (0, 0))) (pt l17 (rc20 .ready)))))) := ⟨_, rfl⟩
  have hY26 : ∀ (w : World) (Z' : Hp) (R : HP) (s : (List Int)) (y27 : Int) (y28 : ByteArray) (y29 : ByteArray) (y30 : Bool) (y31 : Int) (A32 : Option Addr) (cp33 : Nat) (y34 : (List ByteArray)) (r : (List Int)), RdS Z' cS 1 A32 cp33 y34 → Z12.le Z' → rule_Due.y1 s y27 y28 y29 y30 y31 y34 = some r → Inv w0 Z' w (star (J24 s) R) → YAt prog l17 [.agg ((([.int .i64 y27, .string y28, .string y29, .bool y30, .int .i64 y31, .slice A32 y34.length cp33] : List Value))).toArray] w (fun e w' => e = .returned (.bool true) ∧ Inv w0 Z' w' (star (J24 r) R)) := by
    rintro w Z2 R x14 y27 y28 y29 y30 y31 A32 cp33 y34 r_ hl35 hle2 h1 hI
    rw [hJ25] at hI ⊢
    dsimp only at hI ⊢
    unfold rule_Due.y1 at h1
    try dsimp only at h1
    obtain ⟨A15, hI⟩ := hI.exo
    obtain ⟨cp16, hI⟩ := hI.exo
    have hI := hI.mono (ung3 _ _ _ _)
    have hI := hI.mono (pick3 _ _ _ _)
    refine YAt.roundN hrc22 hI rfl ha23 (by kernel_rfl) ?_
    refine CodT.keep [5, 10] (S' := [(5, .pointer (some ⟨b1, 0, none⟩)), (10, .agg ((([.int .i64 y27, .string y28, .string y29, .bool y30, .int .i64 y31, .slice A32 y34.length cp33] : List Value))).toArray)]) (by kernel_rfl) ?_
    refine CodT.regionL [0, 1] (by kernel_rfl) ?_
    refine OpsT.cons (Does.allocL (d := 6) (T := 27) ((([.int .i64 0, .string (⟨#[]⟩ : ByteArray), .string (⟨#[]⟩ : ByteArray), .bool false, .int .i64 0, .slice none 0 0] : List Value))) (by kernel_rfl) ty27 hI (by kernel_rfl) ?_)
    intro b36 w hI
    refine OpsT.cons (Does.storeLit (T := 27) (b := b36) (o := 0) (v := .agg ((([.int .i64 y27, .string y28, .string y29, .bool y30, .int .i64 y31, .slice A32 y34.length cp33] : List Value))).toArray) (l := (([.int .i64 0, .string (⟨#[]⟩ : ByteArray), .string (⟨#[]⟩ : ByteArray), .bool false, .int .i64 0, .slice none 0 0] : List Value))) (vs := (([.int .i64 y27, .string y28, .string y29, .bool y30, .int .i64 y31, .slice A32 y34.length cp33] : List Value))) (L' := (([.int .i64 y27, .string y28, .string y29, .bool y30, .int .i64 y31, .slice A32 y34.length cp33] : List Value))) (by kernel_rfl) ty27 hI (by kernel_rfl) (by kernel_rfl) (by kernel_rfl) (by kernel_rfl) (by kernel_rfl) ?_)
    intro w hI
    refine OpsT.done ?_
    have hI := hI.mono (pick2 _ _ _)
    refine Qn.thenJ fun a ha => ⟨_, _, hI, fun w hI => ?_⟩
    refine CodT.of ?_ ha
    refine CodT.block ?_
    refine CodT.regionL [0, 1, 2, 3, 4, 5] (by kernel_rfl) ?_
    refine OpsT.cons (Does.yi (Yl.load (d := 11) (T := 32) (v := .slice A15 x14.length cp16) (by kernel_rfl) (ldB ty32 (l := ([.slice A15 x14.length cp16] : List Value)) (o := 0) (v := .slice A15 x14.length cp16) (pick4 _ _ _ _ _) (by kernel_rfl))) hI ?_)
    refine OpsT.pures (r := [2, 3, 4, 5]) [1] [5, 11, 12] (S' := [(5, .pointer (some ⟨b1, 0, none⟩)), (11, .slice A15 x14.length cp16), (12, .pointer (some ⟨b36, 0, none⟩))]) (by kernel_rfl) ?_
    refine OpsT.cons (Does.yi (Yl.load (d := 13) (T := 3) (v := .int .i64 y27) (by kernel_rfl) (ldB ty3 (l := (([.int .i64 y27, .string y28, .string y29, .bool y30, .int .i64 y31, .slice A32 y34.length cp33] : List Value))) (o := 0) (v := .int .i64 y27) (pick2 _ _ _) (by kernel_rfl))) hI ?_)
    refine OpsT.cons (Does.buildSlice (en := (cI .i64)) (d := 14) (n := 1) (T := 32) (ps := [(0, .int .i64 y27)]) ([y27] : List Int) (by kernel_rfl) Go.Proofs.Tryd.underlying32 ty3 (by kernel_rfl) (by kernel_rfl) (by kernel_rfl) (by kernel_rfl) (len_all (fun _ => rfl)) hI ?_)
    intro b37 w hI
    obtain ⟨hg38, h1⟩ := guardS h1
    have hI := hI.mono (pick4 _ _ _ _ _)
    refine OpsT.cons (Does.append (d := 15) (t := 32) (tx := 32) (ty := 32) (ys := x14) (zs := ([y27] : List Int)) (x := .slice (some ⟨b37, 0, none⟩) (([y27] : List Int).length) 1) (by kernel_rfl) Go.Proofs.Tryd.underlying32 ty3 (by kernel_rfl) hI (src_own Go.Proofs.Tryd.underlying32 (hI.mono (pick2 _ _ _)) (one_flat _ (fun _ => rfl))) (ownS_facts (hI.mono (pick2 _ _ _))).2.2 (by unfold LIM at hg38; omega) hg38 ?_)
    intro A39 cp40 w hI
    have hI := hI.mono (pick5 _ _ _ _ _ _)
    refine OpsT.cons (Does.storeLit (T := 32) (b := b1) (o := 0) (v := .slice A39 ((x14 ++ ([y27] : List Int)).length) cp40) (l := ([.slice A15 x14.length cp16] : List Value)) (vs := ([.slice A39 ((x14 ++ ([y27] : List Int)).length) cp40] : List Value)) (L' := ([.slice A39 ((x14 ++ ([y27] : List Int)).length) cp40] : List Value)) (by kernel_rfl) ty32 hI (by kernel_rfl) (by kernel_rfl) (by kernel_rfl) (by kernel_rfl) (by kernel_rfl) ?_)
    intro w hI
    refine OpsT.done ?_
    refine Qn.block_normal ?_
    have hI := hI.mono (pick3 _ _ _ _)
    have hI := hI.drop
    have hI := hI.mono (pick4 _ _ _ _ _)
    have hI := hI.drop
    have hI := hI.mono (pick3 _ _ _ _)
    have hI := hI.mono (pick2 _ _ _)
    have hI := hI.mono (pick3 _ _ _ _)
    have e := someS h1
    subst e
    have hI := hI.mono (pick3 _ _ _ _)
    refine Qn.roundN hrc22 hI ?_
    intro w hI
    refine ⟨rfl, ?_⟩
    have hI := hI.mono (pick3 _ _ _ _)
    have hI := hI.mono (pick3 _ _ _ _)
    have hI := hI.mono (grp3 _ _ _ _)
    exact (Inv.exc A39 (Inv.exc cp40 hI))
  have hI := hI.mono (pick4 _ _ _ _ _)
  have hI := hI.mono (pick4 _ _ _ _ _)
  have hI := hI.mono (grp3 _ _ _ _)
  replace hI : Inv w0 Z12 w (star (J24 ([] : List Int)) (star (pt rr18 (.deferred (some []))) A)) := by rw [hJ25]; exact (Inv.exc none (Inv.exc 0 hI))
  obtain ⟨y41, hc42, h0⟩ := bindS h0
  try dsimp only at h0
  refine Calls.mono (c56 w0 w _ _ (hT.mono hle13) l17 J24 rule_Due.y1 ([] : List Int) hY26 b3 A5 cp6 y4 hr7 hz8 b9 y10 hz11 hI _ hc42) ?_
  rintro e w ⟨rfl, hI⟩
  rw [hJ25] at hI
  dsimp only at hI
  try dsimp only at h0
  obtain ⟨A44, hI⟩ := hI.exo
  obtain ⟨cp45, hI⟩ := hI.exo
  have hI := hI.mono (ung3 _ _ _ _)
  have hI := hI.mono (pick3 _ _ _ _)
  refine ⟨_, _, _, rfl, hI, ?_⟩
  intro w hI
  refine Qn.block_normal ?_
  refine Qn.then ?_
  refine CodT.seq ?_
  refine CodT.regionL [0, 1] (by kernel_rfl) ?_
  refine OpsT.cons (Does.yi (Yl.load (d := 16) (T := 32) (v := .slice A44 y41.length cp45) (by kernel_rfl) (ldB ty32 (l := ([.slice A44 y41.length cp45] : List Value)) (o := 0) (v := .slice A44 y41.length cp45) (pick2 _ _ _) (by kernel_rfl))) hI ?_)
  refine OpsT.pures (r := []) [1] [4] (S' := [(4, .slice A44 y41.length cp45)]) (by kernel_rfl) ?_
  refine OpsT.done ?_
  refine Qn.then ?_
  refine CodT.ret ?_
  have hI := hI.mono (pick3 _ _ _ _)
  refine post_mark hI ?_
  intro w hI
  have hI := hI.mono (pick2 _ _ _)
  have hI := hI.drop
  have e := someS h0
  subst e
  refine Qn.keep [4] (S' := [(4, .slice A44 y41.length cp45)]) (by kernel_rfl) ?_
  exact post_retM (v := .slice A44 y41.length cp45) (fun a ha => RunRes.run (vs := [.slice A44 y41.length cp45]) (.tmp (t := 4) (by kernel_rfl) .nil) ha (by kernel_rfl)) ⟨A44, cp45, rfl, hI.weaken hle13⟩
set_option maxRecDepth 100000 in
set_option maxHeartbeats 4000000 in
/-- cenotaph/rule.Kept -/
theorem c14 (w0 w : World) (Z : Hp) (A : HP) (hI : Inv w0 Z w A) (hT : Tabs Z) (a0_ID : Int) (a0_Name : ByteArray) (a0_Data : ByteArray) (a0_Sealed : Bool) (a0_Until : Int) (A_a0_Holds : Option Addr) (c_a0_Holds : Nat) (a0_Holds : (List ByteArray)) (hr_a0_Holds : RdS Z cS 1 A_a0_Holds c_a0_Holds a0_Holds) (a1 : Int) (r : Bool) (h0 : rule_Kept a0_ID a0_Name a0_Data a0_Sealed a0_Until a0_Holds a1 = some r) :
    Calls prog 14 #[.agg ((([.int .i64 a0_ID, .string a0_Name, .string a0_Data, .bool a0_Sealed, .int .i64 a0_Until, .slice A_a0_Holds a0_Holds.length c_a0_Holds] : List Value))).toArray, .int .i64 a1] w (fun e w' => e = .returned (.bool r) ∧ Inv w0 Z w' A) := by
  have e4 := calls_intro (R := (fun e w' => e = .returned (.bool r) ∧ Inv w0 Z w' A)) (w := w) (args := [.agg ((([.int .i64 a0_ID, .string a0_Name, .string a0_Data, .bool a0_Sealed, .int .i64 a0_Until, .slice A_a0_Holds a0_Holds.length c_a0_Holds] : List Value))).toArray, .int .i64 a1]) (fn := Go.Proofs.Tryd.f14) 13 Go.Proofs.Tryd.func14 (by rfl) Go.Proofs.Tryd.ntmps14 (by kernel_rfl)
  refine e4 ?_
  clear e4
  unfold rule_Kept at h0
  refine CodT.seq ?_
  refine CodT.regionL [0, 1] (by kernel_rfl) ?_
  refine OpsT.cons (Does.boxL (d := 2) (T := 27) (v := .agg ((([.int .i64 a0_ID, .string a0_Name, .string a0_Data, .bool a0_Sealed, .int .i64 a0_Until, .slice A_a0_Holds a0_Holds.length c_a0_Holds] : List Value))).toArray) ((([.int .i64 a0_ID, .string a0_Name, .string a0_Data, .bool a0_Sealed, .int .i64 a0_Until, .slice A_a0_Holds a0_Holds.length c_a0_Holds] : List Value))) (by kernel_rfl) hI (by kernel_rfl) ?_)
  intro b1 w hI
  refine OpsT.pures (r := []) [1] [1, 2] (S' := [(1, .int .i64 a1), (2, .pointer (some ⟨b1, 0, none⟩))]) (by kernel_rfl) ?_
  refine OpsT.done ?_
  refine Qn.then ?_
  obtain ⟨r1, h1, h0⟩ := bindS h0
  refine CodT.meet (fun a w => ∃ (x2 : Bool), x2 = r1 ∧ Fr 13 [(4, .bool x2)] a ∧ Inv w0 Z w A) ?_ ?_
  ·
    refine CodT.regionL [0, 1, 2, 3, 4, 5, 6, 7, 8] (by kernel_rfl) ?_
    refine OpsT.pures (r := [1, 2, 3, 4, 5, 6, 7, 8]) [0] [1, 2, 5] (S' := [(1, .int .i64 a1), (2, .pointer (some ⟨b1, 0, none⟩)), (5, .pointer (some ⟨b1, 3, none⟩))]) (by kernel_rfl) ?_
    refine OpsT.cons (Does.yi (Yl.load (d := 6) (T := 4) (v := .bool a0_Sealed) (by kernel_rfl) (ldB ty4 (l := (([.int .i64 a0_ID, .string a0_Name, .string a0_Data, .bool a0_Sealed, .int .i64 a0_Until, .slice A_a0_Holds a0_Holds.length c_a0_Holds] : List Value))) (o := 3) (v := .bool a0_Sealed) (ent_refl _) (by kernel_rfl))) hI ?_)
    refine OpsT.pures (r := [3, 4, 5, 6, 7, 8]) [2] [1, 2, 7] (S' := [(1, .int .i64 a1), (2, .pointer (some ⟨b1, 0, none⟩)), (7, .bool a0_Sealed)]) (by kernel_rfl) ?_
    by_cases hb3 : a0_Sealed = true
    · rw [if_pos hb3] at h1
      refine OpsT.keep [1, 2, 7] (S' := [(1, .int .i64 a1), (2, .pointer (some ⟨b1, 0, none⟩)), (7, .bool true)]) (by (try simp only [hb3]); kernel_rfl) ?_
      refine OpsT.cons (Does.yi (Yl.load (d := 8) (T := 27) (v := .agg ((([.int .i64 a0_ID, .string a0_Name, .string a0_Data, .bool a0_Sealed, .int .i64 a0_Until, .slice A_a0_Holds a0_Holds.length c_a0_Holds] : List Value))).toArray) (by kernel_rfl) (ldBN ty27 (l := (([.int .i64 a0_ID, .string a0_Name, .string a0_Data, .bool a0_Sealed, .int .i64 a0_Until, .slice A_a0_Holds a0_Holds.length c_a0_Holds] : List Value))) (o := 0) (cs := (([.int .i64 a0_ID, .string a0_Name, .string a0_Data, .bool a0_Sealed, .int .i64 a0_Until, .slice A_a0_Holds a0_Holds.length c_a0_Holds] : List Value))) (ent_refl _) (by kernel_rfl) (whole _ _ (by kernel_rfl)))) hI ?_)
      refine OpsT.pures (r := [5, 6, 7, 8]) [4] [7, 8, 9] (S' := [(7, .bool true), (8, .agg ((([.int .i64 a0_ID, .string a0_Name, .string a0_Data, .bool a0_Sealed, .int .i64 a0_Until, .slice A_a0_Holds a0_Holds.length c_a0_Holds] : List Value))).toArray), (9, .int .i64 a1)]) (by kernel_rfl) ?_
      obtain ⟨y5, hc4, h1⟩ := bindS h1
      try dsimp only at h1
      refine OpsT.cons (Does.call (d := some 10) (n := 13) (vs := [.agg ((([.int .i64 a0_ID, .string a0_Name, .string a0_Data, .bool a0_Sealed, .int .i64 a0_Until, .slice A_a0_Holds a0_Holds.length c_a0_Holds] : List Value))).toArray, .int .i64 a1]) (by kernel_rfl) en13 (c13 w0 w _ _ hI hT a0_ID a0_Name a0_Data a0_Sealed a0_Until A_a0_Holds c_a0_Holds a0_Holds hr_a0_Holds a1 _ hc4) ?_)
      rintro e w ⟨rfl, hI⟩
      refine ⟨_, rfl, ?_⟩
      refine OpsT.pures (r := []) [6, 7, 8] [4] (S' := [(4, .bool (y5 != 0))]) (by kernel_rfl) ?_
      refine OpsT.done ?_
      have hI := hI.drop
      have e := someS h1
      subst e
      exact Qn.thenJ fun a ha => ⟨y5 != 0, rfl, ha.keep [4] (by kernel_rfl), hI⟩
    · rw [if_neg hb3] at h1
      have hb3 : a0_Sealed = false := by simpa using hb3
      refine OpsT.keep [1, 2, 7] (S' := [(1, .int .i64 a1), (2, .pointer (some ⟨b1, 0, none⟩)), (7, .bool false)]) (by (try simp only [hb3]); kernel_rfl) ?_
      refine OpsT.pures (r := []) [3, 4, 5, 6, 7, 8] [4] (S' := [(4, .bool false)]) (by kernel_rfl) ?_
      refine OpsT.done ?_
      have hI := hI.drop
      have e := someS h1
      subst e
      exact Qn.thenJ fun a ha => ⟨false, rfl, ha.keep [4] (by kernel_rfl), hI⟩
  ·
    rintro a w ⟨x2, rfl, ha, hI⟩
    try dsimp only at h0
    refine CodT.of ?_ ha
    refine CodT.ret ?_
    have e := someS h0
    subst e
    refine Qn.keep [4] (S' := [(4, .bool x2)]) (by kernel_rfl) ?_
    exact post_ret (v := .bool x2) (fun a ha => RunRes.run (vs := [.bool x2]) (.tmp (t := 4) (by kernel_rfl) .nil) ha (by kernel_rfl)) ⟨rfl, hI⟩
set_option maxRecDepth 100000 in
set_option maxHeartbeats 4000000 in
/-- cenotaph/rule.Floor -/
theorem c18 (w0 w : World) (Z : Hp) (A : HP) (hI : Inv w0 Z w A) (hT : Tabs Z) (a0 : Int) (a1 : Int) (r : Int) (h0 : rule_Floor a0 a1 = some r) :
    Calls prog 18 #[.int .i64 a0, .int .i64 a1] w (fun e w' => e = .returned (.int .i64 r) ∧ Inv w0 Z w' A) := by
  have e4 := calls_intro (R := (fun e w' => e = .returned (.int .i64 r) ∧ Inv w0 Z w' A)) (w := w) (args := [.int .i64 a0, .int .i64 a1]) (fn := Go.Proofs.Tryd.f18) 10 Go.Proofs.Tryd.func18 (by rfl) Go.Proofs.Tryd.ntmps18 (by kernel_rfl)
  refine e4 ?_
  clear e4
  unfold rule_Floor at h0
  refine CodT.seq ?_
  refine CodT.regionL [0] (by kernel_rfl) ?_
  refine OpsT.pures (r := []) [0] [0, 1] (S' := [(0, .int .i64 a0), (1, .int .i64 a1)]) (by kernel_rfl) ?_
  refine OpsT.done ?_
  refine Qn.then ?_
  refine CodT.seq ?_
  refine CodT.regionL [0, 1, 2, 3, 4, 5] (by kernel_rfl) ?_
  refine OpsT.pures (r := []) [0, 1, 2, 3, 4, 5] [4] (S' := [(4, .int .i64 (if (if 1099511627776 < (if 0 > a1 then 0 else a1) then 1099511627776 else if 0 > a1 then 0 else a1) > a0 then if 1099511627776 < (if 0 > a1 then 0 else a1) then 1099511627776 else if 0 > a1 then 0 else a1 else a0))]) (by kernel_rfl) ?_
  refine OpsT.done ?_
  refine Qn.then ?_
  refine CodT.ret ?_
  have e := someS h0
  subst e
  refine Qn.keep [4] (S' := [(4, .int .i64 (if (if 1099511627776 < (if 0 > a1 then 0 else a1) then 1099511627776 else if 0 > a1 then 0 else a1) > a0 then if 1099511627776 < (if 0 > a1 then 0 else a1) then 1099511627776 else if 0 > a1 then 0 else a1 else a0))]) (by kernel_rfl) ?_
  exact post_ret (v := .int .i64 (if (if 1099511627776 < (if 0 > a1 then 0 else a1) then 1099511627776 else if 0 > a1 then 0 else a1) > a0 then if 1099511627776 < (if 0 > a1 then 0 else a1) then 1099511627776 else if 0 > a1 then 0 else a1 else a0)) (fun a ha => RunRes.run (vs := [.int .i64 (if (if 1099511627776 < (if 0 > a1 then 0 else a1) then 1099511627776 else if 0 > a1 then 0 else a1) > a0 then if 1099511627776 < (if 0 > a1 then 0 else a1) then 1099511627776 else if 0 > a1 then 0 else a1 else a0)]) (.tmp (t := 4) (by kernel_rfl) .nil) ha (by kernel_rfl)) ⟨rfl, hI⟩
set_option maxRecDepth 100000 in
set_option maxHeartbeats 4000000 in
/-- cenotaph/cenotaphlaw07.works -/
theorem c10 (w0 w : World) (Z : Hp) (A : HP) (hI : Inv w0 Z w A) (hT : Tabs Z)  (r : Bool) (h0 : law07_works = some r) :
    Calls prog 10 #[] w (fun e w' => e = .returned (.bool r) ∧ Inv w0 Z w' A) := by
  have e4 := calls_intro (R := (fun e w' => e = .returned (.bool r) ∧ Inv w0 Z w' A)) (w := w) (args := []) (fn := Go.Proofs.Tryd.f10) 102 Go.Proofs.Tryd.func10 (by rfl) Go.Proofs.Tryd.ntmps10 (by kernel_rfl)
  refine e4 ?_
  clear e4
  unfold law07_works at h0
  refine CodT.seq ?_
  refine CodT.regionL [0] (by kernel_rfl) ?_
  refine OpsT.pures (r := []) [0] [] (S' := []) (by kernel_rfl) ?_
  refine OpsT.done ?_
  refine Qn.then ?_
  refine CodT.seq ?_
  refine CodT.regionL [0, 1, 2, 3, 4, 5, 6, 7] (by kernel_rfl) ?_
  refine OpsT.pures (r := [1, 2, 3, 4, 5, 6, 7]) [0] [11] (S' := [(11, .agg ((([.int .i64 1, .string (⟨#[]⟩ : ByteArray), .string (⟨#[]⟩ : ByteArray), .bool false, .int .i64 0, .slice none 0 0] : List Value))).toArray)]) (by kernel_rfl) ?_
  obtain ⟨⟨y2, y3, y4, y5, y6, y7, y11⟩, hc1, h0⟩ := bindS h0
  try dsimp only at h0
  refine OpsT.cons (Does.call (d := some 12) (n := 20) (vs := [.agg ((([.int .i64 1, .string (⟨#[]⟩ : ByteArray), .string (⟨#[]⟩ : ByteArray), .bool false, .int .i64 0, .slice none 0 0] : List Value))).toArray, .int .i64 9]) (by kernel_rfl) en20 (c20 w0 w _ _ hI hT 1 (⟨#[]⟩ : ByteArray) (⟨#[]⟩ : ByteArray) false 0 none 0 ([] : List ByteArray) (RdS.nil _ _ _ _ _ (Nat.zero_le _)) 9 _ hc1) ?_)
  rintro e w ⟨A8, cp9, Z12, hle13, rfl, hr10, hI⟩
  refine ⟨_, rfl, ?_⟩
  refine OpsT.pures (r := [5, 6, 7]) [2, 3, 4] [13, 14] (S' := [(13, .agg ((([.int .i64 y2, .string y3, .string y4, .bool y5, .int .i64 y6, .slice A8 y7.length cp9] : List Value))).toArray), (14, .int .i64 y11)]) (by kernel_rfl) ?_
  refine OpsT.cons (Does.allocL (d := 1) (T := 27) ((([.int .i64 0, .string (⟨#[]⟩ : ByteArray), .string (⟨#[]⟩ : ByteArray), .bool false, .int .i64 0, .slice none 0 0] : List Value))) (by kernel_rfl) ty27 hI (by kernel_rfl) ?_)
  intro b14 w hI
  refine OpsT.cons (Does.storeLit (T := 27) (b := b14) (o := 0) (v := .agg ((([.int .i64 y2, .string y3, .string y4, .bool y5, .int .i64 y6, .slice A8 y7.length cp9] : List Value))).toArray) (l := (([.int .i64 0, .string (⟨#[]⟩ : ByteArray), .string (⟨#[]⟩ : ByteArray), .bool false, .int .i64 0, .slice none 0 0] : List Value))) (vs := (([.int .i64 y2, .string y3, .string y4, .bool y5, .int .i64 y6, .slice A8 y7.length cp9] : List Value))) (L' := (([.int .i64 y2, .string y3, .string y4, .bool y5, .int .i64 y6, .slice A8 y7.length cp9] : List Value))) (by kernel_rfl) ty27 hI (by kernel_rfl) (by kernel_rfl) (by kernel_rfl) (by kernel_rfl) (by kernel_rfl) ?_)
  intro w hI
  refine OpsT.pures (r := []) [7] [1, 2] (S' := [(1, .pointer (some ⟨b14, 0, none⟩)), (2, .int .i64 y11)]) (by kernel_rfl) ?_
  refine OpsT.done ?_
  refine Qn.then ?_
  refine CodT.seq ?_
  refine CodT.regionL [0, 1, 2, 3, 4, 5, 6, 7] (by kernel_rfl) ?_
  refine OpsT.cons (Does.yi (Yl.load (d := 16) (T := 27) (v := .agg ((([.int .i64 y2, .string y3, .string y4, .bool y5, .int .i64 y6, .slice A8 y7.length cp9] : List Value))).toArray) (by kernel_rfl) (ldBN ty27 (l := (([.int .i64 y2, .string y3, .string y4, .bool y5, .int .i64 y6, .slice A8 y7.length cp9] : List Value))) (o := 0) (cs := (([.int .i64 y2, .string y3, .string y4, .bool y5, .int .i64 y6, .slice A8 y7.length cp9] : List Value))) (ent_refl _) (by kernel_rfl) (whole _ _ (by kernel_rfl)))) hI ?_)
  obtain ⟨⟨y16, y17, y18, y19, y20, y21, y25⟩, hc15, h0⟩ := bindS h0
  try dsimp only at h0
  refine OpsT.cons (Does.call (d := some 17) (n := 22) (vs := [.agg ((([.int .i64 y2, .string y3, .string y4, .bool y5, .int .i64 y6, .slice A8 y7.length cp9] : List Value))).toArray, .string (⟨#[120]⟩ : ByteArray)]) (by kernel_rfl) en22 (c22 w0 w _ _ hI (hT.mono hle13) y2 y3 y4 y5 y6 A8 cp9 y7 hr10 (⟨#[120]⟩ : ByteArray) _ hc15) ?_)
  rintro e w ⟨A22, cp23, Z26, hle27, rfl, hr24, hI⟩
  refine ⟨_, rfl, ?_⟩
  refine OpsT.pures (r := [5, 6, 7]) [2, 3, 4] [1, 2, 18, 19] (S' := [(1, .pointer (some ⟨b14, 0, none⟩)), (2, .int .i64 y11), (18, .agg ((([.int .i64 y16, .string y17, .string y18, .bool y19, .int .i64 y20, .slice A22 y21.length cp23] : List Value))).toArray), (19, .int .i64 y25)]) (by kernel_rfl) ?_
  refine OpsT.cons (Does.allocL (d := 3) (T := 27) ((([.int .i64 0, .string (⟨#[]⟩ : ByteArray), .string (⟨#[]⟩ : ByteArray), .bool false, .int .i64 0, .slice none 0 0] : List Value))) (by kernel_rfl) ty27 hI (by kernel_rfl) ?_)
  intro b28 w hI
  refine OpsT.cons (Does.storeLit (T := 27) (b := b28) (o := 0) (v := .agg ((([.int .i64 y16, .string y17, .string y18, .bool y19, .int .i64 y20, .slice A22 y21.length cp23] : List Value))).toArray) (l := (([.int .i64 0, .string (⟨#[]⟩ : ByteArray), .string (⟨#[]⟩ : ByteArray), .bool false, .int .i64 0, .slice none 0 0] : List Value))) (vs := (([.int .i64 y16, .string y17, .string y18, .bool y19, .int .i64 y20, .slice A22 y21.length cp23] : List Value))) (L' := (([.int .i64 y16, .string y17, .string y18, .bool y19, .int .i64 y20, .slice A22 y21.length cp23] : List Value))) (by kernel_rfl) ty27 hI (by kernel_rfl) (by kernel_rfl) (by kernel_rfl) (by kernel_rfl) (by kernel_rfl) ?_)
  intro w hI
  refine OpsT.pures (r := []) [7] [1, 2, 3, 4] (S' := [(1, .pointer (some ⟨b14, 0, none⟩)), (2, .int .i64 y11), (3, .pointer (some ⟨b28, 0, none⟩)), (4, .int .i64 y25)]) (by kernel_rfl) ?_
  refine OpsT.done ?_
  refine Qn.then ?_
  refine CodT.seq ?_
  refine CodT.regionL [0, 1, 2, 3, 4, 5, 6, 7] (by kernel_rfl) ?_
  refine OpsT.cons (Does.yi (Yl.load (d := 21) (T := 27) (v := .agg ((([.int .i64 y16, .string y17, .string y18, .bool y19, .int .i64 y20, .slice A22 y21.length cp23] : List Value))).toArray) (by kernel_rfl) (ldBN ty27 (l := (([.int .i64 y16, .string y17, .string y18, .bool y19, .int .i64 y20, .slice A22 y21.length cp23] : List Value))) (o := 0) (cs := (([.int .i64 y16, .string y17, .string y18, .bool y19, .int .i64 y20, .slice A22 y21.length cp23] : List Value))) (ent_refl _) (by kernel_rfl) (whole _ _ (by kernel_rfl)))) hI ?_)
  obtain ⟨⟨y30, y31, y32, y33, y34, y35, y39⟩, hc29, h0⟩ := bindS h0
  try dsimp only at h0
  refine OpsT.cons (Does.call (d := some 22) (n := 23) (vs := [.agg ((([.int .i64 y16, .string y17, .string y18, .bool y19, .int .i64 y20, .slice A22 y21.length cp23] : List Value))).toArray, .string (⟨#[120]⟩ : ByteArray)]) (by kernel_rfl) en23 (c23 w0 w _ _ hI (hT.mono (Hp.le_trans hle13 hle27)) y16 y17 y18 y19 y20 A22 cp23 y21 hr24 (⟨#[120]⟩ : ByteArray) _ hc29) ?_)
  rintro e w ⟨A36, cp37, Z40, hle41, rfl, hr38, hI⟩
  refine ⟨_, rfl, ?_⟩
  refine OpsT.pures (r := [5, 6, 7]) [2, 3, 4] [1, 2, 3, 4, 23, 24] (S' := [(1, .pointer (some ⟨b14, 0, none⟩)), (2, .int .i64 y11), (3, .pointer (some ⟨b28, 0, none⟩)), (4, .int .i64 y25), (23, .agg ((([.int .i64 y30, .string y31, .string y32, .bool y33, .int .i64 y34, .slice A36 y35.length cp37] : List Value))).toArray), (24, .int .i64 y39)]) (by kernel_rfl) ?_
  refine OpsT.cons (Does.allocL (d := 5) (T := 27) ((([.int .i64 0, .string (⟨#[]⟩ : ByteArray), .string (⟨#[]⟩ : ByteArray), .bool false, .int .i64 0, .slice none 0 0] : List Value))) (by kernel_rfl) ty27 hI (by kernel_rfl) ?_)
  intro b42 w hI
  refine OpsT.cons (Does.storeLit (T := 27) (b := b42) (o := 0) (v := .agg ((([.int .i64 y30, .string y31, .string y32, .bool y33, .int .i64 y34, .slice A36 y35.length cp37] : List Value))).toArray) (l := (([.int .i64 0, .string (⟨#[]⟩ : ByteArray), .string (⟨#[]⟩ : ByteArray), .bool false, .int .i64 0, .slice none 0 0] : List Value))) (vs := (([.int .i64 y30, .string y31, .string y32, .bool y33, .int .i64 y34, .slice A36 y35.length cp37] : List Value))) (L' := (([.int .i64 y30, .string y31, .string y32, .bool y33, .int .i64 y34, .slice A36 y35.length cp37] : List Value))) (by kernel_rfl) ty27 hI (by kernel_rfl) (by kernel_rfl) (by kernel_rfl) (by kernel_rfl) (by kernel_rfl) ?_)
  intro w hI
  refine OpsT.pures (r := []) [7] [1, 2, 3, 4, 5, 6] (S' := [(1, .pointer (some ⟨b14, 0, none⟩)), (2, .int .i64 y11), (3, .pointer (some ⟨b28, 0, none⟩)), (4, .int .i64 y25), (5, .pointer (some ⟨b42, 0, none⟩)), (6, .int .i64 y39)]) (by kernel_rfl) ?_
  refine OpsT.done ?_
  refine Qn.then ?_
  refine CodT.seq ?_
  refine CodT.regionL [0, 1, 2, 3, 4, 5, 6, 7] (by kernel_rfl) ?_
  refine OpsT.cons (Does.yi (Yl.load (d := 26) (T := 27) (v := .agg ((([.int .i64 y2, .string y3, .string y4, .bool y5, .int .i64 y6, .slice A8 y7.length cp9] : List Value))).toArray) (by kernel_rfl) (ldBN ty27 (l := (([.int .i64 y2, .string y3, .string y4, .bool y5, .int .i64 y6, .slice A8 y7.length cp9] : List Value))) (o := 0) (cs := (([.int .i64 y2, .string y3, .string y4, .bool y5, .int .i64 y6, .slice A8 y7.length cp9] : List Value))) (pick3 _ _ _ _) (by kernel_rfl) (whole _ _ (by kernel_rfl)))) hI ?_)
  obtain ⟨⟨y44, y45, y46, y47, y48, y49, y53⟩, hc43, h0⟩ := bindS h0
  try dsimp only at h0
  refine OpsT.cons (Does.call (d := some 27) (n := 21) (vs := [.agg ((([.int .i64 y2, .string y3, .string y4, .bool y5, .int .i64 y6, .slice A8 y7.length cp9] : List Value))).toArray, .int .i64 10]) (by kernel_rfl) en21 (c21 w0 w _ _ hI (hT.mono (Hp.le_trans (Hp.le_trans hle13 hle27) hle41)) y2 y3 y4 y5 y6 A8 cp9 y7 (hr10.mono (Hp.le_trans hle27 hle41)) 10 _ hc43) ?_)
  rintro e w ⟨A50, cp51, Z54, hle55, rfl, hr52, hI⟩
  refine ⟨_, rfl, ?_⟩
  refine OpsT.pures (r := [5, 6, 7]) [2, 3, 4] [1, 2, 3, 4, 5, 6, 28, 29] (S' := [(1, .pointer (some ⟨b14, 0, none⟩)), (2, .int .i64 y11), (3, .pointer (some ⟨b28, 0, none⟩)), (4, .int .i64 y25), (5, .pointer (some ⟨b42, 0, none⟩)), (6, .int .i64 y39), (28, .agg ((([.int .i64 y44, .string y45, .string y46, .bool y47, .int .i64 y48, .slice A50 y49.length cp51] : List Value))).toArray), (29, .int .i64 y53)]) (by kernel_rfl) ?_
  refine OpsT.cons (Does.allocL (d := 7) (T := 27) ((([.int .i64 0, .string (⟨#[]⟩ : ByteArray), .string (⟨#[]⟩ : ByteArray), .bool false, .int .i64 0, .slice none 0 0] : List Value))) (by kernel_rfl) ty27 hI (by kernel_rfl) ?_)
  intro b56 w hI
  refine OpsT.cons (Does.storeLit (T := 27) (b := b56) (o := 0) (v := .agg ((([.int .i64 y44, .string y45, .string y46, .bool y47, .int .i64 y48, .slice A50 y49.length cp51] : List Value))).toArray) (l := (([.int .i64 0, .string (⟨#[]⟩ : ByteArray), .string (⟨#[]⟩ : ByteArray), .bool false, .int .i64 0, .slice none 0 0] : List Value))) (vs := (([.int .i64 y44, .string y45, .string y46, .bool y47, .int .i64 y48, .slice A50 y49.length cp51] : List Value))) (L' := (([.int .i64 y44, .string y45, .string y46, .bool y47, .int .i64 y48, .slice A50 y49.length cp51] : List Value))) (by kernel_rfl) ty27 hI (by kernel_rfl) (by kernel_rfl) (by kernel_rfl) (by kernel_rfl) (by kernel_rfl) ?_)
  intro w hI
  refine OpsT.pures (r := []) [7] [1, 2, 3, 4, 5, 6, 7, 8] (S' := [(1, .pointer (some ⟨b14, 0, none⟩)), (2, .int .i64 y11), (3, .pointer (some ⟨b28, 0, none⟩)), (4, .int .i64 y25), (5, .pointer (some ⟨b42, 0, none⟩)), (6, .int .i64 y39), (7, .pointer (some ⟨b56, 0, none⟩)), (8, .int .i64 y53)]) (by kernel_rfl) ?_
  refine OpsT.done ?_
  refine Qn.then ?_
  refine CodT.seq ?_
  refine CodT.regionL [0, 1, 2, 3, 4] (by kernel_rfl) ?_
  refine OpsT.cons (Does.yi (Yl.load (d := 30) (T := 27) (v := .agg ((([.int .i64 y2, .string y3, .string y4, .bool y5, .int .i64 y6, .slice A8 y7.length cp9] : List Value))).toArray) (by kernel_rfl) (ldBN ty27 (l := (([.int .i64 y2, .string y3, .string y4, .bool y5, .int .i64 y6, .slice A8 y7.length cp9] : List Value))) (o := 0) (cs := (([.int .i64 y2, .string y3, .string y4, .bool y5, .int .i64 y6, .slice A8 y7.length cp9] : List Value))) (pick4 _ _ _ _ _) (by kernel_rfl) (whole _ _ (by kernel_rfl)))) hI ?_)
  refine OpsT.pures (r := [2, 3, 4]) [1] [1, 2, 3, 4, 5, 6, 7, 8, 30, 31] (S' := [(1, .pointer (some ⟨b14, 0, none⟩)), (2, .int .i64 y11), (3, .pointer (some ⟨b28, 0, none⟩)), (4, .int .i64 y25), (5, .pointer (some ⟨b42, 0, none⟩)), (6, .int .i64 y39), (7, .pointer (some ⟨b56, 0, none⟩)), (8, .int .i64 y53), (30, .agg ((([.int .i64 y2, .string y3, .string y4, .bool y5, .int .i64 y6, .slice A8 y7.length cp9] : List Value))).toArray), (31, .agg ((([.int .i64 2, .string (⟨#[]⟩ : ByteArray), .string (⟨#[]⟩ : ByteArray), .bool false, .int .i64 0, .slice none 0 0] : List Value))).toArray)]) (by kernel_rfl) ?_
  refine OpsT.cons (Does.buildSliceAll (en := cx_ApiFile) (d := 32) (n := 2) (T := 22) (ps := [(0, .agg ((([.int .i64 y2, .string y3, .string y4, .bool y5, .int .i64 y6, .slice A8 y7.length cp9] : List Value))).toArray), (1, .agg ((([.int .i64 2, .string (⟨#[]⟩ : ByteArray), .string (⟨#[]⟩ : ByteArray), .bool false, .int .i64 0, .slice none 0 0] : List Value))).toArray)]) (fun y => .agg (cx_ApiFile y).toArray) (fun _ => rfl) ([⟨y2, y3, y4, y5, y6, (A8, cp9, y7)⟩, ⟨2, (⟨#[]⟩ : ByteArray), (⟨#[]⟩ : ByteArray), false, 0, (none, 0, ([] : List ByteArray))⟩] : List XApiFile) (by kernel_rfl) rfl Go.Proofs.Tryd.underlying22 ty27 rfl (by kernel_rfl) (by kernel_rfl) (by decide +kernel) (List.forall_mem_cons.2 ⟨rfl, (List.forall_mem_cons.2 ⟨rfl, (fun _ h => by cases h)⟩)⟩) hI ?_)
  intro b57 w hI
  obtain ⟨Z58, hle59, hr60, hI⟩ := ownS_freeze hI
  have hx61 : RdX_ApiFile Z58 (some ⟨b57, 0, none⟩) 2 ([⟨y2, y3, y4, y5, y6, y7⟩, ⟨2, (⟨#[]⟩ : ByteArray), (⟨#[]⟩ : ByteArray), false, 0, ([] : List ByteArray)⟩] : List ApiFile) := ⟨_, rfl, hr60, (List.forall_mem_cons.2 ⟨(hr10.mono (Hp.le_trans (Hp.le_trans (Hp.le_trans hle27 hle41) hle55) hle59)), (List.forall_mem_cons.2 ⟨(RdS.nil _ _ _ _ _ (Nat.zero_le _)), (fun _ h => by cases h)⟩)⟩)⟩
  obtain ⟨y63, hc62, h0⟩ := bindS h0
  try dsimp only at h0
  refine OpsT.cons (Does.call (d := some 33) (n := 16) (vs := [.slice (some ⟨b57, 0, none⟩) (([⟨y2, y3, y4, y5, y6, y7⟩, ⟨2, (⟨#[]⟩ : ByteArray), (⟨#[]⟩ : ByteArray), false, 0, ([] : List ByteArray)⟩] : List ApiFile).length) 2, .int .i64 9]) (by kernel_rfl) en16 (c16 w0 w _ _ hI (hT.mono (Hp.le_trans (Hp.le_trans (Hp.le_trans (Hp.le_trans hle13 hle27) hle41) hle55) hle59)) (some ⟨b57, 0, none⟩) 2 ([⟨y2, y3, y4, y5, y6, y7⟩, ⟨2, (⟨#[]⟩ : ByteArray), (⟨#[]⟩ : ByteArray), false, 0, ([] : List ByteArray)⟩] : List ApiFile) hx61 9 _ hc62) ?_)
  rintro e w ⟨A64, cp65, rfl, hI⟩
  refine ⟨_, rfl, ?_⟩
  refine OpsT.pures (r := []) [4] [1, 2, 3, 4, 5, 6, 7, 8, 9] (S' := [(1, .pointer (some ⟨b14, 0, none⟩)), (2, .int .i64 y11), (3, .pointer (some ⟨b28, 0, none⟩)), (4, .int .i64 y25), (5, .pointer (some ⟨b42, 0, none⟩)), (6, .int .i64 y39), (7, .pointer (some ⟨b56, 0, none⟩)), (8, .int .i64 y53), (9, .slice A64 y63.length cp65)]) (by kernel_rfl) ?_
  refine OpsT.done ?_
  refine Qn.then ?_
  obtain ⟨r1, h1, h0⟩ := bindS h0
  refine CodT.meet (fun a w => ∃ (x66 : Bool), x66 = r1 ∧ Fr 102 [(0, .bool x66)] a ∧ Inv w0 Z58 w A) ?_ ?_
  ·
    refine CodT.regionL [0, 1, 2, 3, 4, 5, 6, 7, 8, 9, 10, 11, 12, 13, 14, 15, 16, 17, 18, 19, 20, 21, 22, 23, 24, 25, 26, 27, 28, 29, 30, 31, 32, 33, 34, 35, 36, 37, 38, 39, 40, 41, 42, 43, 44, 45, 46, 47, 48, 49, 50, 51, 52, 53, 54, 55, 56, 57, 58, 59, 60, 61, 62, 63, 64, 65, 66, 67, 68] (by kernel_rfl) ?_
    refine OpsT.pures (r := [3, 4, 5, 6, 7, 8, 9, 10, 11, 12, 13, 14, 15, 16, 17, 18, 19, 20, 21, 22, 23, 24, 25, 26, 27, 28, 29, 30, 31, 32, 33, 34, 35, 36, 37, 38, 39, 40, 41, 42, 43, 44, 45, 46, 47, 48, 49, 50, 51, 52, 53, 54, 55, 56, 57, 58, 59, 60, 61, 62, 63, 64, 65, 66, 67, 68]) [0, 1, 2] [1, 3, 4, 5, 6, 7, 8, 9, 36] (S' := [(1, .pointer (some ⟨b14, 0, none⟩)), (3, .pointer (some ⟨b28, 0, none⟩)), (4, .int .i64 y25), (5, .pointer (some ⟨b42, 0, none⟩)), (6, .int .i64 y39), (7, .pointer (some ⟨b56, 0, none⟩)), (8, .int .i64 y53), (9, .slice A64 y63.length cp65), (36, .bool (y11 == 0))]) (by kernel_rfl) ?_
    by_cases hb67 : (y11 == 0) = true
    · rw [if_pos hb67] at h1
      refine OpsT.keep [1, 3, 4, 5, 6, 7, 8, 9, 36] (S' := [(1, .pointer (some ⟨b14, 0, none⟩)), (3, .pointer (some ⟨b28, 0, none⟩)), (4, .int .i64 y25), (5, .pointer (some ⟨b42, 0, none⟩)), (6, .int .i64 y39), (7, .pointer (some ⟨b56, 0, none⟩)), (8, .int .i64 y53), (9, .slice A64 y63.length cp65), (36, .bool true)]) (by (try simp only [hb67]); kernel_rfl) ?_
      refine OpsT.pures (r := [7, 8, 9, 10, 11, 12, 13, 14, 15, 16, 17, 18, 19, 20, 21, 22, 23, 24, 25, 26, 27, 28, 29, 30, 31, 32, 33, 34, 35, 36, 37, 38, 39, 40, 41, 42, 43, 44, 45, 46, 47, 48, 49, 50, 51, 52, 53, 54, 55, 56, 57, 58, 59, 60, 61, 62, 63, 64, 65, 66, 67, 68]) [3, 4, 5, 6] [1, 3, 5, 6, 7, 8, 9, 40] (S' := [(1, .pointer (some ⟨b14, 0, none⟩)), (3, .pointer (some ⟨b28, 0, none⟩)), (5, .pointer (some ⟨b42, 0, none⟩)), (6, .int .i64 y39), (7, .pointer (some ⟨b56, 0, none⟩)), (8, .int .i64 y53), (9, .slice A64 y63.length cp65), (40, .bool (y25 == 0))]) (by kernel_rfl) ?_
      by_cases hb68 : (y25 == 0) = true
      · rw [if_pos hb68] at h1
        refine OpsT.keep [1, 3, 5, 6, 7, 8, 9, 40] (S' := [(1, .pointer (some ⟨b14, 0, none⟩)), (3, .pointer (some ⟨b28, 0, none⟩)), (5, .pointer (some ⟨b42, 0, none⟩)), (6, .int .i64 y39), (7, .pointer (some ⟨b56, 0, none⟩)), (8, .int .i64 y53), (9, .slice A64 y63.length cp65), (40, .bool true)]) (by (try simp only [hb68]); kernel_rfl) ?_
        refine OpsT.pures (r := [11, 12, 13, 14, 15, 16, 17, 18, 19, 20, 21, 22, 23, 24, 25, 26, 27, 28, 29, 30, 31, 32, 33, 34, 35, 36, 37, 38, 39, 40, 41, 42, 43, 44, 45, 46, 47, 48, 49, 50, 51, 52, 53, 54, 55, 56, 57, 58, 59, 60, 61, 62, 63, 64, 65, 66, 67, 68]) [7, 8, 9, 10] [1, 3, 5, 7, 8, 9, 44] (S' := [(1, .pointer (some ⟨b14, 0, none⟩)), (3, .pointer (some ⟨b28, 0, none⟩)), (5, .pointer (some ⟨b42, 0, none⟩)), (7, .pointer (some ⟨b56, 0, none⟩)), (8, .int .i64 y53), (9, .slice A64 y63.length cp65), (44, .bool (y39 == 0))]) (by kernel_rfl) ?_
        by_cases hb69 : (y39 == 0) = true
        · rw [if_pos hb69] at h1
          refine OpsT.keep [1, 3, 5, 7, 8, 9, 44] (S' := [(1, .pointer (some ⟨b14, 0, none⟩)), (3, .pointer (some ⟨b28, 0, none⟩)), (5, .pointer (some ⟨b42, 0, none⟩)), (7, .pointer (some ⟨b56, 0, none⟩)), (8, .int .i64 y53), (9, .slice A64 y63.length cp65), (44, .bool true)]) (by (try simp only [hb69]); kernel_rfl) ?_
          refine OpsT.pures (r := [15, 16, 17, 18, 19, 20, 21, 22, 23, 24, 25, 26, 27, 28, 29, 30, 31, 32, 33, 34, 35, 36, 37, 38, 39, 40, 41, 42, 43, 44, 45, 46, 47, 48, 49, 50, 51, 52, 53, 54, 55, 56, 57, 58, 59, 60, 61, 62, 63, 64, 65, 66, 67, 68]) [11, 12, 13, 14] [1, 3, 5, 7, 9, 48] (S' := [(1, .pointer (some ⟨b14, 0, none⟩)), (3, .pointer (some ⟨b28, 0, none⟩)), (5, .pointer (some ⟨b42, 0, none⟩)), (7, .pointer (some ⟨b56, 0, none⟩)), (9, .slice A64 y63.length cp65), (48, .bool (y53 == 0))]) (by kernel_rfl) ?_
          by_cases hb70 : (y53 == 0) = true
          · rw [if_pos hb70] at h1
            refine OpsT.keep [1, 3, 5, 7, 9, 48] (S' := [(1, .pointer (some ⟨b14, 0, none⟩)), (3, .pointer (some ⟨b28, 0, none⟩)), (5, .pointer (some ⟨b42, 0, none⟩)), (7, .pointer (some ⟨b56, 0, none⟩)), (9, .slice A64 y63.length cp65), (48, .bool true)]) (by (try simp only [hb70]); kernel_rfl) ?_
            refine OpsT.pures (r := [16, 17, 18, 19, 20, 21, 22, 23, 24, 25, 26, 27, 28, 29, 30, 31, 32, 33, 34, 35, 36, 37, 38, 39, 40, 41, 42, 43, 44, 45, 46, 47, 48, 49, 50, 51, 52, 53, 54, 55, 56, 57, 58, 59, 60, 61, 62, 63, 64, 65, 66, 67, 68]) [15] [1, 3, 5, 9, 48, 49] (S' := [(1, .pointer (some ⟨b14, 0, none⟩)), (3, .pointer (some ⟨b28, 0, none⟩)), (5, .pointer (some ⟨b42, 0, none⟩)), (9, .slice A64 y63.length cp65), (48, .bool true), (49, .pointer (some ⟨b56, 4, none⟩))]) (by kernel_rfl) ?_
            refine OpsT.cons (Does.yi (Yl.load (d := 50) (T := 3) (v := .int .i64 y48) (by kernel_rfl) (ldB ty3 (l := (([.int .i64 y44, .string y45, .string y46, .bool y47, .int .i64 y48, .slice A50 y49.length cp51] : List Value))) (o := 4) (v := .int .i64 y48) (pick2 _ _ _) (by kernel_rfl))) hI ?_)
            refine OpsT.pures (r := [20, 21, 22, 23, 24, 25, 26, 27, 28, 29, 30, 31, 32, 33, 34, 35, 36, 37, 38, 39, 40, 41, 42, 43, 44, 45, 46, 47, 48, 49, 50, 51, 52, 53, 54, 55, 56, 57, 58, 59, 60, 61, 62, 63, 64, 65, 66, 67, 68]) [17, 18, 19] [1, 3, 5, 9, 53] (S' := [(1, .pointer (some ⟨b14, 0, none⟩)), (3, .pointer (some ⟨b28, 0, none⟩)), (5, .pointer (some ⟨b42, 0, none⟩)), (9, .slice A64 y63.length cp65), (53, .bool (y48 == 10))]) (by kernel_rfl) ?_
            by_cases hb71 : (y48 == 10) = true
            · rw [if_pos hb71] at h1
              refine OpsT.keep [1, 3, 5, 9, 53] (S' := [(1, .pointer (some ⟨b14, 0, none⟩)), (3, .pointer (some ⟨b28, 0, none⟩)), (5, .pointer (some ⟨b42, 0, none⟩)), (9, .slice A64 y63.length cp65), (53, .bool true)]) (by (try simp only [hb71]); kernel_rfl) ?_
              refine OpsT.pures (r := [21, 22, 23, 24, 25, 26, 27, 28, 29, 30, 31, 32, 33, 34, 35, 36, 37, 38, 39, 40, 41, 42, 43, 44, 45, 46, 47, 48, 49, 50, 51, 52, 53, 54, 55, 56, 57, 58, 59, 60, 61, 62, 63, 64, 65, 66, 67, 68]) [20] [1, 3, 9, 53, 54] (S' := [(1, .pointer (some ⟨b14, 0, none⟩)), (3, .pointer (some ⟨b28, 0, none⟩)), (9, .slice A64 y63.length cp65), (53, .bool true), (54, .pointer (some ⟨b42, 5, none⟩))]) (by kernel_rfl) ?_
              refine OpsT.cons (Does.yi (Yl.load (d := 55) (T := 25) (v := .slice A36 y35.length cp37) (by kernel_rfl) (ldB ty25 (l := (([.int .i64 y30, .string y31, .string y32, .bool y33, .int .i64 y34, .slice A36 y35.length cp37] : List Value))) (o := 5) (v := .slice A36 y35.length cp37) (pick3 _ _ _ _) (by kernel_rfl))) hI ?_)
              refine OpsT.pures (r := [26, 27, 28, 29, 30, 31, 32, 33, 34, 35, 36, 37, 38, 39, 40, 41, 42, 43, 44, 45, 46, 47, 48, 49, 50, 51, 52, 53, 54, 55, 56, 57, 58, 59, 60, 61, 62, 63, 64, 65, 66, 67, 68]) [22, 23, 24, 25] [1, 3, 9, 59] (S' := [(1, .pointer (some ⟨b14, 0, none⟩)), (3, .pointer (some ⟨b28, 0, none⟩)), (9, .slice A64 y63.length cp65), (59, .bool ((y35.length : Int) == 0))]) (by kernel_rfl) ?_
              by_cases hb72 : ((y35.length : Int) == 0) = true
              · rw [if_pos hb72] at h1
                refine OpsT.keep [1, 3, 9, 59] (S' := [(1, .pointer (some ⟨b14, 0, none⟩)), (3, .pointer (some ⟨b28, 0, none⟩)), (9, .slice A64 y63.length cp65), (59, .bool true)]) (by (try simp only [hb72]); kernel_rfl) ?_
                refine OpsT.cons (Does.yi (Yl.load (d := 60) (T := 27) (v := .agg ((([.int .i64 y2, .string y3, .string y4, .bool y5, .int .i64 y6, .slice A8 y7.length cp9] : List Value))).toArray) (by kernel_rfl) (ldBN ty27 (l := (([.int .i64 y2, .string y3, .string y4, .bool y5, .int .i64 y6, .slice A8 y7.length cp9] : List Value))) (o := 0) (cs := (([.int .i64 y2, .string y3, .string y4, .bool y5, .int .i64 y6, .slice A8 y7.length cp9] : List Value))) (pick5 _ _ _ _ _ _) (by kernel_rfl) (whole _ _ (by kernel_rfl)))) hI ?_)
                obtain ⟨y74, hc73, h1⟩ := bindS h1
                try dsimp only at h1
                refine OpsT.cons (Does.call (d := some 61) (n := 13) (vs := [.agg ((([.int .i64 y2, .string y3, .string y4, .bool y5, .int .i64 y6, .slice A8 y7.length cp9] : List Value))).toArray, .int .i64 8]) (by kernel_rfl) en13 (c13 w0 w _ _ hI (hT.mono (Hp.le_trans (Hp.le_trans (Hp.le_trans (Hp.le_trans hle13 hle27) hle41) hle55) hle59)) y2 y3 y4 y5 y6 A8 cp9 y7 (hr10.mono (Hp.le_trans (Hp.le_trans (Hp.le_trans hle27 hle41) hle55) hle59)) 8 _ hc73) ?_)
                rintro e w ⟨rfl, hI⟩
                refine ⟨_, rfl, ?_⟩
                refine OpsT.pures (r := [31, 32, 33, 34, 35, 36, 37, 38, 39, 40, 41, 42, 43, 44, 45, 46, 47, 48, 49, 50, 51, 52, 53, 54, 55, 56, 57, 58, 59, 60, 61, 62, 63, 64, 65, 66, 67, 68]) [28, 29, 30] [1, 3, 9, 64] (S' := [(1, .pointer (some ⟨b14, 0, none⟩)), (3, .pointer (some ⟨b28, 0, none⟩)), (9, .slice A64 y63.length cp65), (64, .bool (y74 == 8))]) (by kernel_rfl) ?_
                by_cases hb75 : (y74 == 8) = true
                · rw [if_pos hb75] at h1
                  refine OpsT.keep [1, 3, 9, 64] (S' := [(1, .pointer (some ⟨b14, 0, none⟩)), (3, .pointer (some ⟨b28, 0, none⟩)), (9, .slice A64 y63.length cp65), (64, .bool true)]) (by (try simp only [hb75]); kernel_rfl) ?_
                  refine OpsT.cons (Does.yi (Yl.load (d := 65) (T := 27) (v := .agg ((([.int .i64 y2, .string y3, .string y4, .bool y5, .int .i64 y6, .slice A8 y7.length cp9] : List Value))).toArray) (by kernel_rfl) (ldBN ty27 (l := (([.int .i64 y2, .string y3, .string y4, .bool y5, .int .i64 y6, .slice A8 y7.length cp9] : List Value))) (o := 0) (cs := (([.int .i64 y2, .string y3, .string y4, .bool y5, .int .i64 y6, .slice A8 y7.length cp9] : List Value))) (pick5 _ _ _ _ _ _) (by kernel_rfl) (whole _ _ (by kernel_rfl)))) hI ?_)
                  obtain ⟨y77, hc76, h1⟩ := bindS h1
                  try dsimp only at h1
                  refine OpsT.cons (Does.call (d := some 66) (n := 13) (vs := [.agg ((([.int .i64 y2, .string y3, .string y4, .bool y5, .int .i64 y6, .slice A8 y7.length cp9] : List Value))).toArray, .int .i64 9]) (by kernel_rfl) en13 (c13 w0 w _ _ hI (hT.mono (Hp.le_trans (Hp.le_trans (Hp.le_trans (Hp.le_trans hle13 hle27) hle41) hle55) hle59)) y2 y3 y4 y5 y6 A8 cp9 y7 (hr10.mono (Hp.le_trans (Hp.le_trans (Hp.le_trans hle27 hle41) hle55) hle59)) 9 _ hc76) ?_)
                  rintro e w ⟨rfl, hI⟩
                  refine ⟨_, rfl, ?_⟩
                  refine OpsT.pures (r := [36, 37, 38, 39, 40, 41, 42, 43, 44, 45, 46, 47, 48, 49, 50, 51, 52, 53, 54, 55, 56, 57, 58, 59, 60, 61, 62, 63, 64, 65, 66, 67, 68]) [33, 34, 35] [1, 3, 9, 69] (S' := [(1, .pointer (some ⟨b14, 0, none⟩)), (3, .pointer (some ⟨b28, 0, none⟩)), (9, .slice A64 y63.length cp65), (69, .bool (y77 == 0))]) (by kernel_rfl) ?_
                  by_cases hb78 : (y77 == 0) = true
                  · rw [if_pos hb78] at h1
                    refine OpsT.keep [1, 3, 9, 69] (S' := [(1, .pointer (some ⟨b14, 0, none⟩)), (3, .pointer (some ⟨b28, 0, none⟩)), (9, .slice A64 y63.length cp65), (69, .bool true)]) (by (try simp only [hb78]); kernel_rfl) ?_
                    refine OpsT.cons (Does.yi (Yl.load (d := 70) (T := 27) (v := .agg ((([.int .i64 y16, .string y17, .string y18, .bool y19, .int .i64 y20, .slice A22 y21.length cp23] : List Value))).toArray) (by kernel_rfl) (ldBN ty27 (l := (([.int .i64 y16, .string y17, .string y18, .bool y19, .int .i64 y20, .slice A22 y21.length cp23] : List Value))) (o := 0) (cs := (([.int .i64 y16, .string y17, .string y18, .bool y19, .int .i64 y20, .slice A22 y21.length cp23] : List Value))) (pick4 _ _ _ _ _) (by kernel_rfl) (whole _ _ (by kernel_rfl)))) hI ?_)
                    obtain ⟨y80, hc79, h1⟩ := bindS h1
                    try dsimp only at h1
                    refine OpsT.cons (Does.call (d := some 71) (n := 13) (vs := [.agg ((([.int .i64 y16, .string y17, .string y18, .bool y19, .int .i64 y20, .slice A22 y21.length cp23] : List Value))).toArray, .int .i64 9]) (by kernel_rfl) en13 (c13 w0 w _ _ hI (hT.mono (Hp.le_trans (Hp.le_trans (Hp.le_trans (Hp.le_trans hle13 hle27) hle41) hle55) hle59)) y16 y17 y18 y19 y20 A22 cp23 y21 (hr24.mono (Hp.le_trans (Hp.le_trans hle41 hle55) hle59)) 9 _ hc79) ?_)
                    rintro e w ⟨rfl, hI⟩
                    refine ⟨_, rfl, ?_⟩
                    refine OpsT.pures (r := [41, 42, 43, 44, 45, 46, 47, 48, 49, 50, 51, 52, 53, 54, 55, 56, 57, 58, 59, 60, 61, 62, 63, 64, 65, 66, 67, 68]) [38, 39, 40] [1, 3, 9, 74] (S' := [(1, .pointer (some ⟨b14, 0, none⟩)), (3, .pointer (some ⟨b28, 0, none⟩)), (9, .slice A64 y63.length cp65), (74, .bool (y80 == 9))]) (by kernel_rfl) ?_
                    by_cases hb81 : (y80 == 9) = true
                    · rw [if_pos hb81] at h1
                      refine OpsT.keep [1, 3, 9, 74] (S' := [(1, .pointer (some ⟨b14, 0, none⟩)), (3, .pointer (some ⟨b28, 0, none⟩)), (9, .slice A64 y63.length cp65), (74, .bool true)]) (by (try simp only [hb81]); kernel_rfl) ?_
                      refine OpsT.cons (Does.yi (Yl.load (d := 75) (T := 27) (v := .agg ((([.int .i64 y16, .string y17, .string y18, .bool y19, .int .i64 y20, .slice A22 y21.length cp23] : List Value))).toArray) (by kernel_rfl) (ldBN ty27 (l := (([.int .i64 y16, .string y17, .string y18, .bool y19, .int .i64 y20, .slice A22 y21.length cp23] : List Value))) (o := 0) (cs := (([.int .i64 y16, .string y17, .string y18, .bool y19, .int .i64 y20, .slice A22 y21.length cp23] : List Value))) (pick4 _ _ _ _ _) (by kernel_rfl) (whole _ _ (by kernel_rfl)))) hI ?_)
                      obtain ⟨y83, hc82, h1⟩ := bindS h1
                      try dsimp only at h1
                      refine OpsT.cons (Does.call (d := some 76) (n := 14) (vs := [.agg ((([.int .i64 y16, .string y17, .string y18, .bool y19, .int .i64 y20, .slice A22 y21.length cp23] : List Value))).toArray, .int .i64 9]) (by kernel_rfl) en14 (c14 w0 w _ _ hI (hT.mono (Hp.le_trans (Hp.le_trans (Hp.le_trans (Hp.le_trans hle13 hle27) hle41) hle55) hle59)) y16 y17 y18 y19 y20 A22 cp23 y21 (hr24.mono (Hp.le_trans (Hp.le_trans hle41 hle55) hle59)) 9 _ hc82) ?_)
                      rintro e w ⟨rfl, hI⟩
                      refine ⟨_, rfl, ?_⟩
                      refine OpsT.pures (r := [45, 46, 47, 48, 49, 50, 51, 52, 53, 54, 55, 56, 57, 58, 59, 60, 61, 62, 63, 64, 65, 66, 67, 68]) [43, 44] [1, 9, 78] (S' := [(1, .pointer (some ⟨b14, 0, none⟩)), (9, .slice A64 y63.length cp65), (78, .bool y83)]) (by kernel_rfl) ?_
                      by_cases hb84 : y83 = true
                      · rw [if_pos hb84] at h1
                        refine OpsT.keep [1, 9, 78] (S' := [(1, .pointer (some ⟨b14, 0, none⟩)), (9, .slice A64 y63.length cp65), (78, .bool true)]) (by (try simp only [hb84]); kernel_rfl) ?_
                        refine OpsT.cons (Does.yi (Yl.load (d := 79) (T := 27) (v := .agg ((([.int .i64 y2, .string y3, .string y4, .bool y5, .int .i64 y6, .slice A8 y7.length cp9] : List Value))).toArray) (by kernel_rfl) (ldBN ty27 (l := (([.int .i64 y2, .string y3, .string y4, .bool y5, .int .i64 y6, .slice A8 y7.length cp9] : List Value))) (o := 0) (cs := (([.int .i64 y2, .string y3, .string y4, .bool y5, .int .i64 y6, .slice A8 y7.length cp9] : List Value))) (pick5 _ _ _ _ _ _) (by kernel_rfl) (whole _ _ (by kernel_rfl)))) hI ?_)
                        obtain ⟨y86, hc85, h1⟩ := bindS h1
                        try dsimp only at h1
                        refine OpsT.cons (Does.call (d := some 80) (n := 14) (vs := [.agg ((([.int .i64 y2, .string y3, .string y4, .bool y5, .int .i64 y6, .slice A8 y7.length cp9] : List Value))).toArray, .int .i64 9]) (by kernel_rfl) en14 (c14 w0 w _ _ hI (hT.mono (Hp.le_trans (Hp.le_trans (Hp.le_trans (Hp.le_trans hle13 hle27) hle41) hle55) hle59)) y2 y3 y4 y5 y6 A8 cp9 y7 (hr10.mono (Hp.le_trans (Hp.le_trans (Hp.le_trans hle27 hle41) hle55) hle59)) 9 _ hc85) ?_)
                        rintro e w ⟨rfl, hI⟩
                        refine ⟨_, rfl, ?_⟩
                        refine OpsT.pures (r := [50, 51, 52, 53, 54, 55, 56, 57, 58, 59, 60, 61, 62, 63, 64, 65, 66, 67, 68]) [47, 48, 49] [9, 83] (S' := [(9, .slice A64 y63.length cp65), (83, .bool (!y86))]) (by kernel_rfl) ?_
                        by_cases hb87 : (!y86) = true
                        · rw [if_pos hb87] at h1
                          refine OpsT.keep [9, 83] (S' := [(9, .slice A64 y63.length cp65), (83, .bool true)]) (by (try simp only [hb87]); kernel_rfl) ?_
                          refine OpsT.pures (r := [55, 56, 57, 58, 59, 60, 61, 62, 63, 64, 65, 66, 67, 68]) [50, 51, 52, 53, 54] [9, 88] (S' := [(9, .slice A64 y63.length cp65), (88, .bool ((y63.length : Int) == 1))]) (by kernel_rfl) ?_
                          by_cases hb88 : ((y63.length : Int) == 1) = true
                          · rw [if_pos hb88] at h1
                            refine OpsT.keep [9, 88] (S' := [(9, .slice A64 y63.length cp65), (88, .bool true)]) (by (try simp only [hb88]); kernel_rfl) ?_
                            refine OpsT.pures (r := [56, 57, 58, 59, 60, 61, 62, 63, 64, 65, 66, 67, 68]) [55] [88, 89] (S' := [(88, .bool true), (89, .slice A64 y63.length cp65)]) (by kernel_rfl) ?_
                            obtain ⟨hg89, h1⟩ := guardS h1
                            obtain ⟨g90, hA91, hr92, hl93⟩ := ownS_get hI hg89.1 hg89.2
                            refine OpsT.cons (Does.yi (Yl.indexSlice (d := 90) (T := 32) (cc := cp65) (k := .i64) (j := 0) (g := g90) (o := 0) (by kernel_rfl) Go.Proofs.Tryd.underlying32 ty3 hA91 hg89.1 hg89.2) hI ?_)
                            refine OpsT.cons (Does.yi (Yl.load (d := 91) (T := 3) (v := .int .i64 (gt y63 0)) (by kernel_rfl) (ldR ty3 (v := .int .i64 (gt y63 0)) 0 (fun w hC => hr92 w0 w _ hC) (by kernel_rfl))) hI ?_)
                            refine OpsT.pures (r := [61, 62, 63, 64, 65, 66, 67, 68]) [58, 59, 60] [94] (S' := [(94, .bool ((gt y63 0) == 1))]) (by kernel_rfl) ?_
                            by_cases hb94 : ((gt y63 0) == 1) = true
                            · rw [if_pos hb94] at h1
                              refine OpsT.keep [94] (S' := [(94, .bool true)]) (by (try simp only [hb94]); kernel_rfl) ?_
                              obtain ⟨y96, hc95, h1⟩ := bindS h1
                              try dsimp only at h1
                              refine OpsT.cons (Does.call (d := some 95) (n := 18) (vs := [.int .i64 5, .int .i64 3]) (by kernel_rfl) en18 (c18 w0 w _ _ hI (hT.mono (Hp.le_trans (Hp.le_trans (Hp.le_trans (Hp.le_trans hle13 hle27) hle41) hle55) hle59)) 5 3 _ hc95) ?_)
                              rintro e w ⟨rfl, hI⟩
                              refine ⟨_, rfl, ?_⟩
                              refine OpsT.pures (r := [65, 66, 67, 68]) [62, 63, 64] [98] (S' := [(98, .bool (y96 == 5))]) (by kernel_rfl) ?_
                              by_cases hb97 : (y96 == 5) = true
                              · rw [if_pos hb97] at h1
                                refine OpsT.keep [98] (S' := [(98, .bool true)]) (by (try simp only [hb97]); kernel_rfl) ?_
                                obtain ⟨y99, hc98, h1⟩ := bindS h1
                                try dsimp only at h1
                                refine OpsT.cons (Does.call (d := some 99) (n := 18) (vs := [.int .i64 3, .int .i64 5]) (by kernel_rfl) en18 (c18 w0 w _ _ hI (hT.mono (Hp.le_trans (Hp.le_trans (Hp.le_trans (Hp.le_trans hle13 hle27) hle41) hle55) hle59)) 3 5 _ hc98) ?_)
                                rintro e w ⟨rfl, hI⟩
                                refine ⟨_, rfl, ?_⟩
                                refine OpsT.pures (r := []) [66, 67, 68] [0] (S' := [(0, .bool (y99 == 5))]) (by kernel_rfl) ?_
                                refine OpsT.done ?_
                                have hI := hI.drop
                                have hI := hI.drop
                                have hI := hI.drop
                                have hI := hI.drop
                                have hI := hI.drop
                                have e := someS h1
                                subst e
                                exact Qn.thenJ fun a ha => ⟨y99 == 5, rfl, ha.keep [0] (by kernel_rfl), hI⟩
                              · rw [if_neg hb97] at h1
                                have hb97 : (y96 == 5) = false := by simpa using hb97
                                refine OpsT.keep [98] (S' := [(98, .bool false)]) (by (try simp only [hb97]); kernel_rfl) ?_
                                refine OpsT.pures (r := []) [65, 66, 67, 68] [0] (S' := [(0, .bool false)]) (by kernel_rfl) ?_
                                refine OpsT.done ?_
                                have hI := hI.drop
                                have hI := hI.drop
                                have hI := hI.drop
                                have hI := hI.drop
                                have hI := hI.drop
                                have e := someS h1
                                subst e
                                exact Qn.thenJ fun a ha => ⟨false, rfl, ha.keep [0] (by kernel_rfl), hI⟩
                            · rw [if_neg hb94] at h1
                              have hb94 : ((gt y63 0) == 1) = false := by simpa using hb94
                              refine OpsT.keep [94] (S' := [(94, .bool false)]) (by (try simp only [hb94]); kernel_rfl) ?_
                              refine OpsT.pures (r := []) [61, 62, 63, 64, 65, 66, 67, 68] [0] (S' := [(0, .bool false)]) (by kernel_rfl) ?_
                              refine OpsT.done ?_
                              have hI := hI.drop
                              have hI := hI.drop
                              have hI := hI.drop
                              have hI := hI.drop
                              have hI := hI.drop
                              have e := someS h1
                              subst e
                              exact Qn.thenJ fun a ha => ⟨false, rfl, ha.keep [0] (by kernel_rfl), hI⟩
                          · rw [if_neg hb88] at h1
                            have hb88 : ((y63.length : Int) == 1) = false := by simpa using hb88
                            refine OpsT.keep [9, 88] (S' := [(9, .slice A64 y63.length cp65), (88, .bool false)]) (by (try simp only [hb88]); kernel_rfl) ?_
                            refine OpsT.pures (r := []) [55, 56, 57, 58, 59, 60, 61, 62, 63, 64, 65, 66, 67, 68] [0] (S' := [(0, .bool false)]) (by kernel_rfl) ?_
                            refine OpsT.done ?_
                            have hI := hI.drop
                            have hI := hI.drop
                            have hI := hI.drop
                            have hI := hI.drop
                            have hI := hI.drop
                            have e := someS h1
                            subst e
                            exact Qn.thenJ fun a ha => ⟨false, rfl, ha.keep [0] (by kernel_rfl), hI⟩
                        · rw [if_neg hb87] at h1
                          have hb87 : (!y86) = false := by simpa using hb87
                          refine OpsT.keep [9, 83] (S' := [(9, .slice A64 y63.length cp65), (83, .bool false)]) (by (try simp only [hb87]); kernel_rfl) ?_
                          refine OpsT.pures (r := []) [50, 51, 52, 53, 54, 55, 56, 57, 58, 59, 60, 61, 62, 63, 64, 65, 66, 67, 68] [0] (S' := [(0, .bool false)]) (by kernel_rfl) ?_
                          refine OpsT.done ?_
                          have hI := hI.drop
                          have hI := hI.drop
                          have hI := hI.drop
                          have hI := hI.drop
                          have hI := hI.drop
                          have e := someS h1
                          subst e
                          exact Qn.thenJ fun a ha => ⟨false, rfl, ha.keep [0] (by kernel_rfl), hI⟩
                      · rw [if_neg hb84] at h1
                        have hb84 : y83 = false := by simpa using hb84
                        refine OpsT.keep [1, 9, 78] (S' := [(1, .pointer (some ⟨b14, 0, none⟩)), (9, .slice A64 y63.length cp65), (78, .bool false)]) (by (try simp only [hb84]); kernel_rfl) ?_
                        refine OpsT.pures (r := []) [45, 46, 47, 48, 49, 50, 51, 52, 53, 54, 55, 56, 57, 58, 59, 60, 61, 62, 63, 64, 65, 66, 67, 68] [0] (S' := [(0, .bool false)]) (by kernel_rfl) ?_
                        refine OpsT.done ?_
                        have hI := hI.drop
                        have hI := hI.drop
                        have hI := hI.drop
                        have hI := hI.drop
                        have hI := hI.drop
                        have e := someS h1
                        subst e
                        exact Qn.thenJ fun a ha => ⟨false, rfl, ha.keep [0] (by kernel_rfl), hI⟩
                    · rw [if_neg hb81] at h1
                      have hb81 : (y80 == 9) = false := by simpa using hb81
                      refine OpsT.keep [1, 3, 9, 74] (S' := [(1, .pointer (some ⟨b14, 0, none⟩)), (3, .pointer (some ⟨b28, 0, none⟩)), (9, .slice A64 y63.length cp65), (74, .bool false)]) (by (try simp only [hb81]); kernel_rfl) ?_
                      refine OpsT.pures (r := []) [41, 42, 43, 44, 45, 46, 47, 48, 49, 50, 51, 52, 53, 54, 55, 56, 57, 58, 59, 60, 61, 62, 63, 64, 65, 66, 67, 68] [0] (S' := [(0, .bool false)]) (by kernel_rfl) ?_
                      refine OpsT.done ?_
                      have hI := hI.drop
                      have hI := hI.drop
                      have hI := hI.drop
                      have hI := hI.drop
                      have hI := hI.drop
                      have e := someS h1
                      subst e
                      exact Qn.thenJ fun a ha => ⟨false, rfl, ha.keep [0] (by kernel_rfl), hI⟩
                  · rw [if_neg hb78] at h1
                    have hb78 : (y77 == 0) = false := by simpa using hb78
                    refine OpsT.keep [1, 3, 9, 69] (S' := [(1, .pointer (some ⟨b14, 0, none⟩)), (3, .pointer (some ⟨b28, 0, none⟩)), (9, .slice A64 y63.length cp65), (69, .bool false)]) (by (try simp only [hb78]); kernel_rfl) ?_
                    refine OpsT.pures (r := []) [36, 37, 38, 39, 40, 41, 42, 43, 44, 45, 46, 47, 48, 49, 50, 51, 52, 53, 54, 55, 56, 57, 58, 59, 60, 61, 62, 63, 64, 65, 66, 67, 68] [0] (S' := [(0, .bool false)]) (by kernel_rfl) ?_
                    refine OpsT.done ?_
                    have hI := hI.drop
                    have hI := hI.drop
                    have hI := hI.drop
                    have hI := hI.drop
                    have hI := hI.drop
                    have e := someS h1
                    subst e
                    exact Qn.thenJ fun a ha => ⟨false, rfl, ha.keep [0] (by kernel_rfl), hI⟩
                · rw [if_neg hb75] at h1
                  have hb75 : (y74 == 8) = false := by simpa using hb75
                  refine OpsT.keep [1, 3, 9, 64] (S' := [(1, .pointer (some ⟨b14, 0, none⟩)), (3, .pointer (some ⟨b28, 0, none⟩)), (9, .slice A64 y63.length cp65), (64, .bool false)]) (by (try simp only [hb75]); kernel_rfl) ?_
                  refine OpsT.pures (r := []) [31, 32, 33, 34, 35, 36, 37, 38, 39, 40, 41, 42, 43, 44, 45, 46, 47, 48, 49, 50, 51, 52, 53, 54, 55, 56, 57, 58, 59, 60, 61, 62, 63, 64, 65, 66, 67, 68] [0] (S' := [(0, .bool false)]) (by kernel_rfl) ?_
                  refine OpsT.done ?_
                  have hI := hI.drop
                  have hI := hI.drop
                  have hI := hI.drop
                  have hI := hI.drop
                  have hI := hI.drop
                  have e := someS h1
                  subst e
                  exact Qn.thenJ fun a ha => ⟨false, rfl, ha.keep [0] (by kernel_rfl), hI⟩
              · rw [if_neg hb72] at h1
                have hb72 : ((y35.length : Int) == 0) = false := by simpa using hb72
                refine OpsT.keep [1, 3, 9, 59] (S' := [(1, .pointer (some ⟨b14, 0, none⟩)), (3, .pointer (some ⟨b28, 0, none⟩)), (9, .slice A64 y63.length cp65), (59, .bool false)]) (by (try simp only [hb72]); kernel_rfl) ?_
                refine OpsT.pures (r := []) [26, 27, 28, 29, 30, 31, 32, 33, 34, 35, 36, 37, 38, 39, 40, 41, 42, 43, 44, 45, 46, 47, 48, 49, 50, 51, 52, 53, 54, 55, 56, 57, 58, 59, 60, 61, 62, 63, 64, 65, 66, 67, 68] [0] (S' := [(0, .bool false)]) (by kernel_rfl) ?_
                refine OpsT.done ?_
                have hI := hI.drop
                have hI := hI.drop
                have hI := hI.drop
                have hI := hI.drop
                have hI := hI.drop
                have e := someS h1
                subst e
                exact Qn.thenJ fun a ha => ⟨false, rfl, ha.keep [0] (by kernel_rfl), hI⟩
            · rw [if_neg hb71] at h1
              have hb71 : (y48 == 10) = false := by simpa using hb71
              refine OpsT.keep [1, 3, 5, 9, 53] (S' := [(1, .pointer (some ⟨b14, 0, none⟩)), (3, .pointer (some ⟨b28, 0, none⟩)), (5, .pointer (some ⟨b42, 0, none⟩)), (9, .slice A64 y63.length cp65), (53, .bool false)]) (by (try simp only [hb71]); kernel_rfl) ?_
              refine OpsT.pures (r := []) [20, 21, 22, 23, 24, 25, 26, 27, 28, 29, 30, 31, 32, 33, 34, 35, 36, 37, 38, 39, 40, 41, 42, 43, 44, 45, 46, 47, 48, 49, 50, 51, 52, 53, 54, 55, 56, 57, 58, 59, 60, 61, 62, 63, 64, 65, 66, 67, 68] [0] (S' := [(0, .bool false)]) (by kernel_rfl) ?_
              refine OpsT.done ?_
              have hI := hI.drop
              have hI := hI.drop
              have hI := hI.drop
              have hI := hI.drop
              have hI := hI.drop
              have e := someS h1
              subst e
              exact Qn.thenJ fun a ha => ⟨false, rfl, ha.keep [0] (by kernel_rfl), hI⟩
          · rw [if_neg hb70] at h1
            have hb70 : (y53 == 0) = false := by simpa using hb70
            refine OpsT.keep [1, 3, 5, 7, 9, 48] (S' := [(1, .pointer (some ⟨b14, 0, none⟩)), (3, .pointer (some ⟨b28, 0, none⟩)), (5, .pointer (some ⟨b42, 0, none⟩)), (7, .pointer (some ⟨b56, 0, none⟩)), (9, .slice A64 y63.length cp65), (48, .bool false)]) (by (try simp only [hb70]); kernel_rfl) ?_
            refine OpsT.pures (r := []) [15, 16, 17, 18, 19, 20, 21, 22, 23, 24, 25, 26, 27, 28, 29, 30, 31, 32, 33, 34, 35, 36, 37, 38, 39, 40, 41, 42, 43, 44, 45, 46, 47, 48, 49, 50, 51, 52, 53, 54, 55, 56, 57, 58, 59, 60, 61, 62, 63, 64, 65, 66, 67, 68] [0] (S' := [(0, .bool false)]) (by kernel_rfl) ?_
            refine OpsT.done ?_
            have hI := hI.drop
            have hI := hI.drop
            have hI := hI.drop
            have hI := hI.drop
            have hI := hI.drop
            have e := someS h1
            subst e
            exact Qn.thenJ fun a ha => ⟨false, rfl, ha.keep [0] (by kernel_rfl), hI⟩
        · rw [if_neg hb69] at h1
          have hb69 : (y39 == 0) = false := by simpa using hb69
          refine OpsT.keep [1, 3, 5, 7, 8, 9, 44] (S' := [(1, .pointer (some ⟨b14, 0, none⟩)), (3, .pointer (some ⟨b28, 0, none⟩)), (5, .pointer (some ⟨b42, 0, none⟩)), (7, .pointer (some ⟨b56, 0, none⟩)), (8, .int .i64 y53), (9, .slice A64 y63.length cp65), (44, .bool false)]) (by (try simp only [hb69]); kernel_rfl) ?_
          refine OpsT.pures (r := []) [11, 12, 13, 14, 15, 16, 17, 18, 19, 20, 21, 22, 23, 24, 25, 26, 27, 28, 29, 30, 31, 32, 33, 34, 35, 36, 37, 38, 39, 40, 41, 42, 43, 44, 45, 46, 47, 48, 49, 50, 51, 52, 53, 54, 55, 56, 57, 58, 59, 60, 61, 62, 63, 64, 65, 66, 67, 68] [0] (S' := [(0, .bool false)]) (by kernel_rfl) ?_
          refine OpsT.done ?_
          have hI := hI.drop
          have hI := hI.drop
          have hI := hI.drop
          have hI := hI.drop
          have hI := hI.drop
          have e := someS h1
          subst e
          exact Qn.thenJ fun a ha => ⟨false, rfl, ha.keep [0] (by kernel_rfl), hI⟩
      · rw [if_neg hb68] at h1
        have hb68 : (y25 == 0) = false := by simpa using hb68
        refine OpsT.keep [1, 3, 5, 6, 7, 8, 9, 40] (S' := [(1, .pointer (some ⟨b14, 0, none⟩)), (3, .pointer (some ⟨b28, 0, none⟩)), (5, .pointer (some ⟨b42, 0, none⟩)), (6, .int .i64 y39), (7, .pointer (some ⟨b56, 0, none⟩)), (8, .int .i64 y53), (9, .slice A64 y63.length cp65), (40, .bool false)]) (by (try simp only [hb68]); kernel_rfl) ?_
        refine OpsT.pures (r := []) [7, 8, 9, 10, 11, 12, 13, 14, 15, 16, 17, 18, 19, 20, 21, 22, 23, 24, 25, 26, 27, 28, 29, 30, 31, 32, 33, 34, 35, 36, 37, 38, 39, 40, 41, 42, 43, 44, 45, 46, 47, 48, 49, 50, 51, 52, 53, 54, 55, 56, 57, 58, 59, 60, 61, 62, 63, 64, 65, 66, 67, 68] [0] (S' := [(0, .bool false)]) (by kernel_rfl) ?_
        refine OpsT.done ?_
        have hI := hI.drop
        have hI := hI.drop
        have hI := hI.drop
        have hI := hI.drop
        have hI := hI.drop
        have e := someS h1
        subst e
        exact Qn.thenJ fun a ha => ⟨false, rfl, ha.keep [0] (by kernel_rfl), hI⟩
    · rw [if_neg hb67] at h1
      have hb67 : (y11 == 0) = false := by simpa using hb67
      refine OpsT.keep [1, 3, 4, 5, 6, 7, 8, 9, 36] (S' := [(1, .pointer (some ⟨b14, 0, none⟩)), (3, .pointer (some ⟨b28, 0, none⟩)), (4, .int .i64 y25), (5, .pointer (some ⟨b42, 0, none⟩)), (6, .int .i64 y39), (7, .pointer (some ⟨b56, 0, none⟩)), (8, .int .i64 y53), (9, .slice A64 y63.length cp65), (36, .bool false)]) (by (try simp only [hb67]); kernel_rfl) ?_
      refine OpsT.pures (r := []) [3, 4, 5, 6, 7, 8, 9, 10, 11, 12, 13, 14, 15, 16, 17, 18, 19, 20, 21, 22, 23, 24, 25, 26, 27, 28, 29, 30, 31, 32, 33, 34, 35, 36, 37, 38, 39, 40, 41, 42, 43, 44, 45, 46, 47, 48, 49, 50, 51, 52, 53, 54, 55, 56, 57, 58, 59, 60, 61, 62, 63, 64, 65, 66, 67, 68] [0] (S' := [(0, .bool false)]) (by kernel_rfl) ?_
      refine OpsT.done ?_
      have hI := hI.drop
      have hI := hI.drop
      have hI := hI.drop
      have hI := hI.drop
      have hI := hI.drop
      have e := someS h1
      subst e
      exact Qn.thenJ fun a ha => ⟨false, rfl, ha.keep [0] (by kernel_rfl), hI⟩
  ·
    rintro a w ⟨x66, rfl, ha, hI⟩
    try dsimp only at h0
    refine CodT.of ?_ ha
    refine CodT.ret ?_
    have e := someS h0
    subst e
    refine Qn.keep [0] (S' := [(0, .bool x66)]) (by kernel_rfl) ?_
    exact post_ret (v := .bool x66) (fun a ha => RunRes.run (vs := [.bool x66]) (.tmp (t := 0) (by kernel_rfl) .nil) ha (by kernel_rfl)) ⟨rfl, hI.weaken (Hp.le_trans (Hp.le_trans (Hp.le_trans (Hp.le_trans hle13 hle27) hle41) hle55) hle59)⟩
set_option maxRecDepth 100000 in
set_option maxHeartbeats 4000000 in
/-- cenotaph/cenotaphlaw07.Few -/
theorem c11 (w0 w : World) (Z : Hp) (A : HP) (hI : Inv w0 Z w A) (hT : Tabs Z) (a0_ID : Int) (a0_Name : ByteArray) (a0_Data : ByteArray) (a0_Sealed : Bool) (a0_Until : Int) (A_a0_Holds : Option Addr) (c_a0_Holds : Nat) (a0_Holds : (List ByteArray)) (hr_a0_Holds : RdS Z cS 1 A_a0_Holds c_a0_Holds a0_Holds) (r : Bool) (h0 : law07_Few a0_ID a0_Name a0_Data a0_Sealed a0_Until a0_Holds = some r) :
    Calls prog 11 #[.agg ((([.int .i64 a0_ID, .string a0_Name, .string a0_Data, .bool a0_Sealed, .int .i64 a0_Until, .slice A_a0_Holds a0_Holds.length c_a0_Holds] : List Value))).toArray] w (fun e w' => e = .returned (.bool r) ∧ Inv w0 Z w' A) := by
  have e4 := calls_intro (R := (fun e w' => e = .returned (.bool r) ∧ Inv w0 Z w' A)) (w := w) (args := [.agg ((([.int .i64 a0_ID, .string a0_Name, .string a0_Data, .bool a0_Sealed, .int .i64 a0_Until, .slice A_a0_Holds a0_Holds.length c_a0_Holds] : List Value))).toArray]) (fn := Go.Proofs.Tryd.f11) 38 Go.Proofs.Tryd.func11 (by rfl) Go.Proofs.Tryd.ntmps11 (by kernel_rfl)
  refine e4 ?_
  clear e4
  unfold law07_Few at h0
  refine CodT.seq ?_
  refine CodT.regionL [0, 1] (by kernel_rfl) ?_
  refine OpsT.cons (Does.boxL (d := 1) (T := 27) (v := .agg ((([.int .i64 a0_ID, .string a0_Name, .string a0_Data, .bool a0_Sealed, .int .i64 a0_Until, .slice A_a0_Holds a0_Holds.length c_a0_Holds] : List Value))).toArray) ((([.int .i64 a0_ID, .string a0_Name, .string a0_Data, .bool a0_Sealed, .int .i64 a0_Until, .slice A_a0_Holds a0_Holds.length c_a0_Holds] : List Value))) (by kernel_rfl) hI (by kernel_rfl) ?_)
  intro b1 w hI
  refine OpsT.pures (r := []) [1] [1] (S' := [(1, .pointer (some ⟨b1, 0, none⟩))]) (by kernel_rfl) ?_
  refine OpsT.done ?_
  refine Qn.then ?_
  refine CodT.seq ?_
  refine CodT.seq ?_
  refine CodT.regionL [0] (by kernel_rfl) ?_
  refine OpsT.pures (r := []) [0] [1, 3] (S' := [(1, .pointer (some ⟨b1, 0, none⟩)), (3, .int .i64 0)]) (by kernel_rfl) ?_
  refine OpsT.done ?_
  refine Qn.then ?_
  obtain ⟨r1, h1, h0⟩ := bindS h0
  refine CodT.meet1 (fun a w => .inr () = r1 ∧ Fr 38 [(1, .pointer (some ⟨b1, 0, none⟩))] a ∧ Inv w0 Z w (star (pt b1 (.cells ((([.int .i64 a0_ID, .string a0_Name, .string a0_Data, .bool a0_Sealed, .int .i64 a0_Until, .slice A_a0_Holds a0_Holds.length c_a0_Holds] : List Value))).toArray 27 (0, 0))) A)) ?_ ?_
  ·
    refine CodT.block ?_
    refine (fun a ha => wp_loopN (fun k a w => ∃ (x2 : Int), law07_Few.l0 a0_Holds k x2 = some r1 ∧ Fr 38 [(1, .pointer (some ⟨b1, 0, none⟩)), (3, .int .i64 x2)] a ∧ Inv w0 Z w (star (pt b1 (.cells ((([.int .i64 a0_ID, .string a0_Name, .string a0_Data, .bool a0_Sealed, .int .i64 a0_Until, .slice A_a0_Holds a0_Holds.length c_a0_Holds] : List Value))).toArray 27 (0, 0))) A)) ?_ FU a w ⟨0, h1, ha.keep [1, 3] (by kernel_rfl), hI⟩)
    clear h1 hI
    rintro k a w ⟨x2, h1, ha, hI⟩
    rcases k with _ | k
    · cases h1
    simp only [law07_Few.l0] at h1
    refine CodT.of ?_ ha
    refine CodT.seq ?_
    obtain ⟨r2, h2, h1⟩ := bindS h1
    refine CodT.meet (fun a w => ∃ (x3 : Bool), x3 = r2 ∧ Fr 38 [(1, .pointer (some ⟨b1, 0, none⟩)), (3, .int .i64 x2), (12, .bool x3)] a ∧ Inv w0 Z w (star (pt b1 (.cells ((([.int .i64 a0_ID, .string a0_Name, .string a0_Data, .bool a0_Sealed, .int .i64 a0_Until, .slice A_a0_Holds a0_Holds.length c_a0_Holds] : List Value))).toArray 27 (0, 0))) A)) ?_ ?_
    ·
      refine CodT.regionL [0, 1, 2, 3, 4, 5, 6, 7, 8] (by kernel_rfl) ?_
      refine OpsT.pures (r := [2, 3, 4, 5, 6, 7, 8]) [0, 1] [1, 3, 4, 5] (S' := [(1, .pointer (some ⟨b1, 0, none⟩)), (3, .int .i64 x2), (4, .int .i64 x2), (5, .pointer (some ⟨b1, 5, none⟩))]) (by kernel_rfl) ?_
      refine OpsT.cons (Does.yi (Yl.load (d := 6) (T := 25) (v := .slice A_a0_Holds a0_Holds.length c_a0_Holds) (by kernel_rfl) (ldB ty25 (l := (([.int .i64 a0_ID, .string a0_Name, .string a0_Data, .bool a0_Sealed, .int .i64 a0_Until, .slice A_a0_Holds a0_Holds.length c_a0_Holds] : List Value))) (o := 5) (v := .slice A_a0_Holds a0_Holds.length c_a0_Holds) (ent_refl _) (by kernel_rfl))) hI ?_)
      refine OpsT.pures (r := [6, 7, 8]) [3, 4, 5] [1, 3, 9] (S' := [(1, .pointer (some ⟨b1, 0, none⟩)), (3, .int .i64 x2), (9, .bool (decide (x2 < (a0_Holds.length : Int))))]) (by kernel_rfl) ?_
      by_cases hb4 : (decide (x2 < (a0_Holds.length : Int))) = true
      · rw [if_pos hb4] at h2
        refine OpsT.keep [1, 3, 9] (S' := [(1, .pointer (some ⟨b1, 0, none⟩)), (3, .int .i64 x2), (9, .bool true)]) (by (try simp only [hb4]); kernel_rfl) ?_
        refine OpsT.pures (r := []) [6, 7, 8] [1, 3, 12] (S' := [(1, .pointer (some ⟨b1, 0, none⟩)), (3, .int .i64 x2), (12, .bool (decide (x2 ≤ 200)))]) (by kernel_rfl) ?_
        refine OpsT.done ?_
        have e := someS h2
        subst e
        exact Qn.thenJ fun a ha => ⟨decide (x2 ≤ 200), rfl, ha.keep [1, 3, 12] (by kernel_rfl), hI⟩
      · rw [if_neg hb4] at h2
        have hb4 : (decide (x2 < (a0_Holds.length : Int))) = false := by simpa using hb4
        refine OpsT.keep [1, 3, 9] (S' := [(1, .pointer (some ⟨b1, 0, none⟩)), (3, .int .i64 x2), (9, .bool false)]) (by (try simp only [hb4]); kernel_rfl) ?_
        refine OpsT.pures (r := []) [6, 7, 8] [1, 3, 12] (S' := [(1, .pointer (some ⟨b1, 0, none⟩)), (3, .int .i64 x2), (12, .bool false)]) (by kernel_rfl) ?_
        refine OpsT.done ?_
        have e := someS h2
        subst e
        exact Qn.thenJ fun a ha => ⟨false, rfl, ha.keep [1, 3, 12] (by kernel_rfl), hI⟩
    ·
      rintro a w ⟨x3, rfl, ha, hI⟩
      try dsimp only at h1
      refine CodT.of ?_ ha
      by_cases hb5 : x3 = true
      · rw [if_pos hb5] at h1
        refine CodT.yes' (b := x3) (by kernel_rfl) hb5 ?_
        refine CodT.skip ?_
        refine Qn.then ?_
        refine CodT.seq ?_
        refine CodT.block ?_
        refine CodT.seq ?_
        refine CodT.regionL [0, 1, 2, 3, 4, 5, 6] (by kernel_rfl) ?_
        refine OpsT.pures (r := [1, 2, 3, 4, 5, 6]) [0] [1, 3, 15] (S' := [(1, .pointer (some ⟨b1, 0, none⟩)), (3, .int .i64 x2), (15, .pointer (some ⟨b1, 5, none⟩))]) (by kernel_rfl) ?_
        refine OpsT.cons (Does.yi (Yl.load (d := 16) (T := 25) (v := .slice A_a0_Holds a0_Holds.length c_a0_Holds) (by kernel_rfl) (ldB ty25 (l := (([.int .i64 a0_ID, .string a0_Name, .string a0_Data, .bool a0_Sealed, .int .i64 a0_Until, .slice A_a0_Holds a0_Holds.length c_a0_Holds] : List Value))) (o := 5) (v := .slice A_a0_Holds a0_Holds.length c_a0_Holds) (ent_refl _) (by kernel_rfl))) hI ?_)
        refine OpsT.pures (r := [3, 4, 5, 6]) [2] [1, 3, 16, 17] (S' := [(1, .pointer (some ⟨b1, 0, none⟩)), (3, .int .i64 x2), (16, .slice A_a0_Holds a0_Holds.length c_a0_Holds), (17, .int .i64 x2)]) (by kernel_rfl) ?_
        obtain ⟨hg6, h1⟩ := guardS h1
        obtain ⟨g7, o11, hA8, hr9, hl10⟩ := RdS.get hr_a0_Holds hg6.1 hg6.2
        refine OpsT.cons (Does.yi (Yl.indexSlice (d := 18) (T := 25) (cc := c_a0_Holds) (k := .i64) (j := x2) (g := g7) (o := o11) (by kernel_rfl) Go.Proofs.Tryd.underlying25 ty9 hA8 hg6.1 hg6.2) hI ?_)
        refine OpsT.cons (Does.yi (Yl.load (d := 19) (T := 9) (v := .string (gt a0_Holds x2)) (by kernel_rfl) (ldR ty9 (v := .string (gt a0_Holds x2)) 0 (fun w hC => hr9 w0 w _ hC) (by kernel_rfl))) hI ?_)
        refine OpsT.pures (r := []) [5, 6] [1, 3, 21] (S' := [(1, .pointer (some ⟨b1, 0, none⟩)), (3, .int .i64 x2), (21, .bool (decide (((gt a0_Holds x2).size : Int) > 200)))]) (by kernel_rfl) ?_
        refine OpsT.done ?_
        refine Qn.then ?_
        by_cases hb12 : (decide (((gt a0_Holds x2).size : Int) > 200)) = true
        · rw [if_pos hb12] at h1
          refine CodT.yes' (b := decide (((gt a0_Holds x2).size : Int) > 200)) (by kernel_rfl) hb12 ?_
          refine CodT.seq ?_
          refine CodT.regionL [0] (by kernel_rfl) ?_
          refine OpsT.pures (r := []) [0] [2] (S' := [(2, .bool false)]) (by kernel_rfl) ?_
          refine OpsT.done ?_
          refine Qn.then ?_
          refine CodT.ret ?_
          refine Qn.block_ret ?_
          refine Qn.ret_then ?_
          refine Qn.ret_then ?_
          refine Qn.block_ret ?_
          refine Qn.ret_then ?_
          refine Qn.ret_then ?_
          have hI := hI.drop
          have e := someS h1
          subst e
          try dsimp only at h0
          have e := someS h0
          subst e
          refine Qn.keep [2] (S' := [(2, .bool false)]) (by kernel_rfl) ?_
          exact post_ret (v := .bool false) (fun a ha => RunRes.run (vs := [.bool false]) (.tmp (t := 2) (by kernel_rfl) .nil) ha (by kernel_rfl)) ⟨rfl, hI⟩
        · rw [if_neg hb12] at h1
          refine CodT.no' (b := decide (((gt a0_Holds x2).size : Int) > 200)) (by kernel_rfl) (by simpa using hb12) ?_
          refine CodT.skip ?_
          refine Qn.block_normal ?_
          refine Qn.then ?_
          refine CodT.regionL [0, 1, 2] (by kernel_rfl) ?_
          refine OpsT.pures (r := []) [0, 1, 2] [1, 3] (S' := [(1, .pointer (some ⟨b1, 0, none⟩)), (3, .int .i64 (wi64 (x2 + 1)))]) (by kernel_rfl) ?_
          refine OpsT.done ?_
          exact Qn.thenJ fun a ha => ⟨k, Nat.lt_succ_self k, wi64 (x2 + 1), h1, ha.keep [1, 3] (by kernel_rfl), hI⟩
      · rw [if_neg hb5] at h1
        refine CodT.no' (b := x3) (by kernel_rfl) (by simpa using hb5) ?_
        refine CodT.exit ?_
        refine Qn.exit_then ?_
        refine Qn.exit_then ?_
        refine Qn.block ?_
        have e := someS h1
        subst e
        exact Qn.thenJ fun a ha => ⟨rfl, ha.keep [1] (by kernel_rfl), hI⟩
  ·
    rintro a w ⟨rfl, ha, hI⟩
    try dsimp only at h0
    refine Qn.of ?_ ha
    refine Qn.then ?_
    obtain ⟨r1, h1, h0⟩ := bindS h0
    refine CodT.meet (fun a w => ∃ (x13 : Bool), x13 = r1 ∧ Fr 38 [(2, .bool x13)] a ∧ Inv w0 Z w A) ?_ ?_
    ·
      refine CodT.regionL [0, 1, 2, 3, 4, 5, 6, 7, 8, 9, 10, 11, 12, 13, 14, 15, 16] (by kernel_rfl) ?_
      refine OpsT.pures (r := [1, 2, 3, 4, 5, 6, 7, 8, 9, 10, 11, 12, 13, 14, 15, 16]) [0] [1, 22] (S' := [(1, .pointer (some ⟨b1, 0, none⟩)), (22, .pointer (some ⟨b1, 5, none⟩))]) (by kernel_rfl) ?_
      refine OpsT.cons (Does.yi (Yl.load (d := 23) (T := 25) (v := .slice A_a0_Holds a0_Holds.length c_a0_Holds) (by kernel_rfl) (ldB ty25 (l := (([.int .i64 a0_ID, .string a0_Name, .string a0_Data, .bool a0_Sealed, .int .i64 a0_Until, .slice A_a0_Holds a0_Holds.length c_a0_Holds] : List Value))) (o := 5) (v := .slice A_a0_Holds a0_Holds.length c_a0_Holds) (ent_refl _) (by kernel_rfl))) hI ?_)
      refine OpsT.pures (r := [5, 6, 7, 8, 9, 10, 11, 12, 13, 14, 15, 16]) [2, 3, 4] [1, 26] (S' := [(1, .pointer (some ⟨b1, 0, none⟩)), (26, .bool (decide ((a0_Holds.length : Int) ≤ 200)))]) (by kernel_rfl) ?_
      by_cases hb14 : (decide ((a0_Holds.length : Int) ≤ 200)) = true
      · rw [if_pos hb14] at h1
        refine OpsT.keep [1, 26] (S' := [(1, .pointer (some ⟨b1, 0, none⟩)), (26, .bool true)]) (by (try simp only [hb14]); kernel_rfl) ?_
        refine OpsT.pures (r := [6, 7, 8, 9, 10, 11, 12, 13, 14, 15, 16]) [5] [1, 26, 27] (S' := [(1, .pointer (some ⟨b1, 0, none⟩)), (26, .bool true), (27, .pointer (some ⟨b1, 2, none⟩))]) (by kernel_rfl) ?_
        refine OpsT.cons (Does.yi (Yl.load (d := 28) (T := 9) (v := .string a0_Data) (by kernel_rfl) (ldB ty9 (l := (([.int .i64 a0_ID, .string a0_Name, .string a0_Data, .bool a0_Sealed, .int .i64 a0_Until, .slice A_a0_Holds a0_Holds.length c_a0_Holds] : List Value))) (o := 2) (v := .string a0_Data) (ent_refl _) (by kernel_rfl))) hI ?_)
        refine OpsT.pures (r := [11, 12, 13, 14, 15, 16]) [7, 8, 9, 10] [1, 32] (S' := [(1, .pointer (some ⟨b1, 0, none⟩)), (32, .bool (decide ((a0_Data.size : Int) ≤ 2000)))]) (by kernel_rfl) ?_
        by_cases hb15 : (decide ((a0_Data.size : Int) ≤ 2000)) = true
        · rw [if_pos hb15] at h1
          refine OpsT.keep [1, 32] (S' := [(1, .pointer (some ⟨b1, 0, none⟩)), (32, .bool true)]) (by (try simp only [hb15]); kernel_rfl) ?_
          refine OpsT.pures (r := [12, 13, 14, 15, 16]) [11] [32, 33] (S' := [(32, .bool true), (33, .pointer (some ⟨b1, 1, none⟩))]) (by kernel_rfl) ?_
          refine OpsT.cons (Does.yi (Yl.load (d := 34) (T := 9) (v := .string a0_Name) (by kernel_rfl) (ldB ty9 (l := (([.int .i64 a0_ID, .string a0_Name, .string a0_Data, .bool a0_Sealed, .int .i64 a0_Until, .slice A_a0_Holds a0_Holds.length c_a0_Holds] : List Value))) (o := 1) (v := .string a0_Name) (ent_refl _) (by kernel_rfl))) hI ?_)
          refine OpsT.pures (r := []) [13, 14, 15, 16] [2] (S' := [(2, .bool (decide ((a0_Name.size : Int) ≤ 200)))]) (by kernel_rfl) ?_
          refine OpsT.done ?_
          have hI := hI.drop
          have e := someS h1
          subst e
          exact Qn.thenJ fun a ha => ⟨decide ((a0_Name.size : Int) ≤ 200), rfl, ha.keep [2] (by kernel_rfl), hI⟩
        · rw [if_neg hb15] at h1
          have hb15 : (decide ((a0_Data.size : Int) ≤ 2000)) = false := by simpa using hb15
          refine OpsT.keep [1, 32] (S' := [(1, .pointer (some ⟨b1, 0, none⟩)), (32, .bool false)]) (by (try simp only [hb15]); kernel_rfl) ?_
          refine OpsT.pures (r := []) [11, 12, 13, 14, 15, 16] [2] (S' := [(2, .bool false)]) (by kernel_rfl) ?_
          refine OpsT.done ?_
          have hI := hI.drop
          have e := someS h1
          subst e
          exact Qn.thenJ fun a ha => ⟨false, rfl, ha.keep [2] (by kernel_rfl), hI⟩
      · rw [if_neg hb14] at h1
        have hb14 : (decide ((a0_Holds.length : Int) ≤ 200)) = false := by simpa using hb14
        refine OpsT.keep [1, 26] (S' := [(1, .pointer (some ⟨b1, 0, none⟩)), (26, .bool false)]) (by (try simp only [hb14]); kernel_rfl) ?_
        refine OpsT.pures (r := []) [5, 6, 7, 8, 9, 10, 11, 12, 13, 14, 15, 16] [2] (S' := [(2, .bool false)]) (by kernel_rfl) ?_
        refine OpsT.done ?_
        have hI := hI.drop
        have e := someS h1
        subst e
        exact Qn.thenJ fun a ha => ⟨false, rfl, ha.keep [2] (by kernel_rfl), hI⟩
    ·
      rintro a w ⟨x13, rfl, ha, hI⟩
      try dsimp only at h0
      refine CodT.of ?_ ha
      refine CodT.ret ?_
      have e := someS h0
      subst e
      refine Qn.keep [2] (S' := [(2, .bool x13)]) (by kernel_rfl) ?_
      exact post_ret (v := .bool x13) (fun a ha => RunRes.run (vs := [.bool x13]) (.tmp (t := 2) (by kernel_rfl) .nil) ha (by kernel_rfl)) ⟨rfl, hI⟩
set_option maxRecDepth 100000 in
set_option maxHeartbeats 4000000 in
/-- cenotaph/cenotaphref07.May -/
theorem c12 (w0 w : World) (Z : Hp) (A : HP) (hI : Inv w0 Z w A) (hT : Tabs Z) (a0_ID : Int) (a0_Name : ByteArray) (a0_Data : ByteArray) (a0_Sealed : Bool) (a0_Until : Int) (A_a0_Holds : Option Addr) (c_a0_Holds : Nat) (a0_Holds : (List ByteArray)) (hr_a0_Holds : RdS Z cS 1 A_a0_Holds c_a0_Holds a0_Holds) (a1 : Int) (r : Int) (h0 : ref07_May a0_ID a0_Name a0_Data a0_Sealed a0_Until a0_Holds a1 = some r) :
    Calls prog 12 #[.agg ((([.int .i64 a0_ID, .string a0_Name, .string a0_Data, .bool a0_Sealed, .int .i64 a0_Until, .slice A_a0_Holds a0_Holds.length c_a0_Holds] : List Value))).toArray, .int .i64 a1] w (fun e w' => e = .returned (.int .i64 r) ∧ Inv w0 Z w' A) := by
  have e4 := calls_intro (R := (fun e w' => e = .returned (.int .i64 r) ∧ Inv w0 Z w' A)) (w := w) (args := [.agg ((([.int .i64 a0_ID, .string a0_Name, .string a0_Data, .bool a0_Sealed, .int .i64 a0_Until, .slice A_a0_Holds a0_Holds.length c_a0_Holds] : List Value))).toArray, .int .i64 a1]) (fn := Go.Proofs.Tryd.f12) 16 Go.Proofs.Tryd.func12 (by rfl) Go.Proofs.Tryd.ntmps12 (by kernel_rfl)
  refine e4 ?_
  clear e4
  unfold ref07_May at h0
  refine CodT.seq ?_
  refine CodT.regionL [0, 1] (by kernel_rfl) ?_
  refine OpsT.cons (Does.boxL (d := 2) (T := 27) (v := .agg ((([.int .i64 a0_ID, .string a0_Name, .string a0_Data, .bool a0_Sealed, .int .i64 a0_Until, .slice A_a0_Holds a0_Holds.length c_a0_Holds] : List Value))).toArray) ((([.int .i64 a0_ID, .string a0_Name, .string a0_Data, .bool a0_Sealed, .int .i64 a0_Until, .slice A_a0_Holds a0_Holds.length c_a0_Holds] : List Value))) (by kernel_rfl) hI (by kernel_rfl) ?_)
  intro b1 w hI
  refine OpsT.pures (r := []) [1] [1, 2] (S' := [(1, .int .i64 a1), (2, .pointer (some ⟨b1, 0, none⟩))]) (by kernel_rfl) ?_
  refine OpsT.done ?_
  refine Qn.then ?_
  refine CodT.seq ?_
  refine CodT.seq ?_
  refine CodT.regionL [0, 1, 2] (by kernel_rfl) ?_
  refine OpsT.pures (r := [1, 2]) [0] [1, 2, 5] (S' := [(1, .int .i64 a1), (2, .pointer (some ⟨b1, 0, none⟩)), (5, .pointer (some ⟨b1, 3, none⟩))]) (by kernel_rfl) ?_
  refine OpsT.cons (Does.yi (Yl.load (d := 6) (T := 4) (v := .bool a0_Sealed) (by kernel_rfl) (ldB ty4 (l := (([.int .i64 a0_ID, .string a0_Name, .string a0_Data, .bool a0_Sealed, .int .i64 a0_Until, .slice A_a0_Holds a0_Holds.length c_a0_Holds] : List Value))) (o := 3) (v := .bool a0_Sealed) (ent_refl _) (by kernel_rfl))) hI ?_)
  refine OpsT.pures (r := []) [2] [1, 2, 7] (S' := [(1, .int .i64 a1), (2, .pointer (some ⟨b1, 0, none⟩)), (7, .bool (!a0_Sealed))]) (by kernel_rfl) ?_
  refine OpsT.done ?_
  refine Qn.then ?_
  by_cases hb2 : (!a0_Sealed) = true
  · rw [if_pos hb2] at h0
    refine CodT.yes' (b := !a0_Sealed) (by kernel_rfl) hb2 ?_
    refine CodT.seq ?_
    refine CodT.regionL [0] (by kernel_rfl) ?_
    refine OpsT.pures (r := []) [0] [4] (S' := [(4, .int .i64 6)]) (by kernel_rfl) ?_
    refine OpsT.done ?_
    refine Qn.then ?_
    refine CodT.ret ?_
    refine Qn.ret_then ?_
    have hI := hI.drop
    have e := someS h0
    subst e
    refine Qn.keep [4] (S' := [(4, .int .i64 6)]) (by kernel_rfl) ?_
    exact post_ret (v := .int .i64 6) (fun a ha => RunRes.run (vs := [.int .i64 6]) (.tmp (t := 4) (by kernel_rfl) .nil) ha (by kernel_rfl)) ⟨rfl, hI⟩
  · rw [if_neg hb2] at h0
    refine CodT.no' (b := !a0_Sealed) (by kernel_rfl) (by simpa using hb2) ?_
    refine CodT.skip ?_
    refine Qn.then ?_
    refine CodT.seq ?_
    refine CodT.seq ?_
    refine CodT.regionL [0, 1, 2, 3] (by kernel_rfl) ?_
    refine OpsT.pures (r := [2, 3]) [0, 1] [2, 8, 9] (S' := [(2, .pointer (some ⟨b1, 0, none⟩)), (8, .int .i64 a1), (9, .pointer (some ⟨b1, 4, none⟩))]) (by kernel_rfl) ?_
    refine OpsT.cons (Does.yi (Yl.load (d := 10) (T := 3) (v := .int .i64 a0_Until) (by kernel_rfl) (ldB ty3 (l := (([.int .i64 a0_ID, .string a0_Name, .string a0_Data, .bool a0_Sealed, .int .i64 a0_Until, .slice A_a0_Holds a0_Holds.length c_a0_Holds] : List Value))) (o := 4) (v := .int .i64 a0_Until) (ent_refl _) (by kernel_rfl))) hI ?_)
    refine OpsT.pures (r := []) [3] [2, 11] (S' := [(2, .pointer (some ⟨b1, 0, none⟩)), (11, .bool (decide (a1 < a0_Until)))]) (by kernel_rfl) ?_
    refine OpsT.done ?_
    refine Qn.then ?_
    by_cases hb3 : (decide (a1 < a0_Until)) = true
    · rw [if_pos hb3] at h0
      refine CodT.yes' (b := decide (a1 < a0_Until)) (by kernel_rfl) hb3 ?_
      refine CodT.seq ?_
      refine CodT.regionL [0] (by kernel_rfl) ?_
      refine OpsT.pures (r := []) [0] [4] (S' := [(4, .int .i64 8)]) (by kernel_rfl) ?_
      refine OpsT.done ?_
      refine Qn.then ?_
      refine CodT.ret ?_
      refine Qn.ret_then ?_
      have hI := hI.drop
      have e := someS h0
      subst e
      refine Qn.keep [4] (S' := [(4, .int .i64 8)]) (by kernel_rfl) ?_
      exact post_ret (v := .int .i64 8) (fun a ha => RunRes.run (vs := [.int .i64 8]) (.tmp (t := 4) (by kernel_rfl) .nil) ha (by kernel_rfl)) ⟨rfl, hI⟩
    · rw [if_neg hb3] at h0
      refine CodT.no' (b := decide (a1 < a0_Until)) (by kernel_rfl) (by simpa using hb3) ?_
      refine CodT.skip ?_
      refine Qn.then ?_
      refine CodT.seq ?_
      refine CodT.seq ?_
      refine CodT.regionL [0, 1, 2, 3] (by kernel_rfl) ?_
      refine OpsT.pures (r := [1, 2, 3]) [0] [12] (S' := [(12, .pointer (some ⟨b1, 5, none⟩))]) (by kernel_rfl) ?_
      refine OpsT.cons (Does.yi (Yl.load (d := 13) (T := 25) (v := .slice A_a0_Holds a0_Holds.length c_a0_Holds) (by kernel_rfl) (ldB ty25 (l := (([.int .i64 a0_ID, .string a0_Name, .string a0_Data, .bool a0_Sealed, .int .i64 a0_Until, .slice A_a0_Holds a0_Holds.length c_a0_Holds] : List Value))) (o := 5) (v := .slice A_a0_Holds a0_Holds.length c_a0_Holds) (ent_refl _) (by kernel_rfl))) hI ?_)
      refine OpsT.pures (r := []) [2, 3] [15] (S' := [(15, .bool (decide ((a0_Holds.length : Int) > 0)))]) (by kernel_rfl) ?_
      refine OpsT.done ?_
      refine Qn.then ?_
      by_cases hb4 : (decide ((a0_Holds.length : Int) > 0)) = true
      · rw [if_pos hb4] at h0
        refine CodT.yes' (b := decide ((a0_Holds.length : Int) > 0)) (by kernel_rfl) hb4 ?_
        refine CodT.seq ?_
        refine CodT.regionL [0] (by kernel_rfl) ?_
        refine OpsT.pures (r := []) [0] [4] (S' := [(4, .int .i64 9)]) (by kernel_rfl) ?_
        refine OpsT.done ?_
        refine Qn.then ?_
        refine CodT.ret ?_
        refine Qn.ret_then ?_
        have hI := hI.drop
        have e := someS h0
        subst e
        refine Qn.keep [4] (S' := [(4, .int .i64 9)]) (by kernel_rfl) ?_
        exact post_ret (v := .int .i64 9) (fun a ha => RunRes.run (vs := [.int .i64 9]) (.tmp (t := 4) (by kernel_rfl) .nil) ha (by kernel_rfl)) ⟨rfl, hI⟩
      · rw [if_neg hb4] at h0
        refine CodT.no' (b := decide ((a0_Holds.length : Int) > 0)) (by kernel_rfl) (by simpa using hb4) ?_
        refine CodT.skip ?_
        refine Qn.then ?_
        refine CodT.seq ?_
        refine CodT.regionL [0] (by kernel_rfl) ?_
        refine OpsT.pures (r := []) [0] [4] (S' := [(4, .int .i64 0)]) (by kernel_rfl) ?_
        refine OpsT.done ?_
        refine Qn.then ?_
        refine CodT.ret ?_
        have hI := hI.drop
        have e := someS h0
        subst e
        refine Qn.keep [4] (S' := [(4, .int .i64 0)]) (by kernel_rfl) ?_
        exact post_ret (v := .int .i64 0) (fun a ha => RunRes.run (vs := [.int .i64 0]) (.tmp (t := 4) (by kernel_rfl) .nil) ha (by kernel_rfl)) ⟨rfl, hI⟩
set_option maxRecDepth 100000 in
set_option maxHeartbeats 4000000 in
/-- cenotaph/cenotaphref07.Due -/
theorem c17 (w0 w : World) (Z : Hp) (A : HP) (hI : Inv w0 Z w A) (hT : Tabs Z) (A_a0 : Option Addr) (c_a0 : Nat) (a0 : (List ApiFile)) (hr_a0 : RdX_ApiFile Z A_a0 c_a0 a0) (a1 : Int) (r : (List Int)) (h0 : ref07_Due a0 a1 = some r) :
    Calls prog 17 #[.slice A_a0 a0.length c_a0, .int .i64 a1] w (fun e w' => ∃ (A1 : Option Addr) (c1 : Nat), e = .returned (.slice A1 r.length c1) ∧ Inv w0 Z w' (star (ownS 3 (cI .i64) 1 A1 c1 r) A)) := by
  have e4 := calls_intro (R := (fun e w' => ∃ (A1 : Option Addr) (c1 : Nat), e = .returned (.slice A1 r.length c1) ∧ Inv w0 Z w' (star (ownS 3 (cI .i64) 1 A1 c1 r) A))) (w := w) (args := [.slice A_a0 a0.length c_a0, .int .i64 a1]) (fn := Go.Proofs.Tryd.f17) 29 Go.Proofs.Tryd.func17 (by rfl) Go.Proofs.Tryd.ntmps17 (by kernel_rfl)
  refine e4 ?_
  clear e4
  unfold ref07_Due at h0
  refine CodT.seq ?_
  refine CodT.regionL [0] (by kernel_rfl) ?_
  refine OpsT.pures (r := []) [0] [0, 1] (S' := [(0, .slice A_a0 a0.length c_a0), (1, .int .i64 a1)]) (by kernel_rfl) ?_
  refine OpsT.done ?_
  refine Qn.then ?_
  refine CodT.seq ?_
  refine CodT.regionL [0] (by kernel_rfl) ?_
  refine OpsT.pures (r := []) [0] [0, 1, 5] (S' := [(0, .slice A_a0 a0.length c_a0), (1, .int .i64 a1), (5, .slice none 0 0)]) (by kernel_rfl) ?_
  refine OpsT.done ?_
  refine Qn.then ?_
  refine CodT.seq ?_
  refine CodT.seq ?_
  refine CodT.regionL [0] (by kernel_rfl) ?_
  refine OpsT.pures (r := []) [0] [0, 1, 5, 6] (S' := [(0, .slice A_a0 a0.length c_a0), (1, .int .i64 a1), (5, .slice none 0 0), (6, .int .i64 0)]) (by kernel_rfl) ?_
  refine OpsT.done ?_
  refine Qn.then ?_
  obtain ⟨r1, h1, h0⟩ := bindS h0
  refine CodT.meet1 (fun a w => ∃ (x1 : (List Int)) (A2 : Option Addr) (cp3 : Nat), x1 = r1 ∧ Fr 29 [(5, .slice A2 x1.length cp3)] a ∧ Inv w0 Z w (star (ownS 3 (cI .i64) 1 A2 cp3 x1) A)) ?_ ?_
  ·
    refine CodT.block ?_
    have hI := ownS_nil (α := Int) hI 3 (cI .i64) 1
    refine (fun a ha => wp_loopN (fun k a w => ∃ (x4 : (List Int)) (x7 : Int) (A5 : Option Addr) (cp6 : Nat), ref07_Due.l0 a0 a1 k x4 x7 = some r1 ∧ Fr 29 [(0, .slice A_a0 a0.length c_a0), (1, .int .i64 a1), (5, .slice A5 x4.length cp6), (6, .int .i64 x7)] a ∧ Inv w0 Z w (star (ownS 3 (cI .i64) 1 A5 cp6 x4) A)) ?_ FU a w ⟨([] : List Int), 0, none, 0, h1, ha.keep [0, 1, 5, 6] (by kernel_rfl), hI⟩)
    clear h1 hI
    rintro k a w ⟨x4, x7, A5, cp6, h1, ha, hI⟩
    rcases k with _ | k
    · cases h1
    simp only [ref07_Due.l0] at h1
    refine CodT.of ?_ ha
    refine CodT.seq ?_
    refine CodT.seq ?_
    refine CodT.regionL [0, 1, 2, 3] (by kernel_rfl) ?_
    refine OpsT.pures (r := []) [0, 1, 2, 3] [0, 1, 5, 6, 10] (S' := [(0, .slice A_a0 a0.length c_a0), (1, .int .i64 a1), (5, .slice A5 x4.length cp6), (6, .int .i64 x7), (10, .bool (decide (x7 < (a0.length : Int))))]) (by kernel_rfl) ?_
    refine OpsT.done ?_
    refine Qn.then ?_
    by_cases hb8 : (decide (x7 < (a0.length : Int))) = true
    · rw [if_pos hb8] at h1
      refine CodT.yes' (b := decide (x7 < (a0.length : Int))) (by kernel_rfl) hb8 ?_
      refine CodT.skip ?_
      refine Qn.then ?_
      obtain ⟨r2, h2, h1⟩ := bindS h1
      refine CodT.meet (fun a w => ∃ (x9 : (List Int)) (A10 : Option Addr) (cp11 : Nat), x9 = r2 ∧ Fr 29 [(0, .slice A_a0 a0.length c_a0), (1, .int .i64 a1), (5, .slice A10 x9.length cp11), (6, .int .i64 x7)] a ∧ Inv w0 Z w (star (ownS 3 (cI .i64) 1 A10 cp11 x9) A)) ?_ ?_
      ·
        refine CodT.block ?_
        refine CodT.seq ?_
        refine CodT.regionL [0, 1, 2, 3, 4, 5, 6] (by kernel_rfl) ?_
        refine OpsT.pures (r := [2, 3, 4, 5, 6]) [0, 1] [0, 1, 5, 6, 13, 14] (S' := [(0, .slice A_a0 a0.length c_a0), (1, .int .i64 a1), (5, .slice A5 x4.length cp6), (6, .int .i64 x7), (13, .slice A_a0 a0.length c_a0), (14, .int .i64 x7)]) (by kernel_rfl) ?_
        obtain ⟨hg12, h2⟩ := guardS h2
        obtain ⟨g13, o17, A18, cp19, hA14, hr15, hr20⟩ := RdX_ApiFile.get hr_a0 hg12.1 hg12.2
        refine OpsT.cons (Does.yi (Yl.indexSlice (d := 15) (T := 22) (cc := c_a0) (k := .i64) (j := x7) (g := g13) (o := o17) (by kernel_rfl) Go.Proofs.Tryd.underlying22 ty27 hA14 hg12.1 hg12.2) hI ?_)
        refine OpsT.cons (Does.yi (Yl.load (d := 16) (T := 27) (v := .agg ((([.int .i64 ((gt a0 x7).ID), .string ((gt a0 x7).Name), .string ((gt a0 x7).Data), .bool ((gt a0 x7).Sealed), .int .i64 ((gt a0 x7).Until), .slice A18 (((gt a0 x7).Holds).length) cp19] : List Value))).toArray) (by kernel_rfl) (ldRN ty27 (cs := (([.int .i64 ((gt a0 x7).ID), .string ((gt a0 x7).Name), .string ((gt a0 x7).Data), .bool ((gt a0 x7).Sealed), .int .i64 ((gt a0 x7).Until), .slice A18 (((gt a0 x7).Holds).length) cp19] : List Value))) 0 (fun w hC => hr15 w0 w _ hC) (by kernel_rfl) (whole _ _ (by kernel_rfl)))) hI ?_)
        refine OpsT.pures (r := [5, 6]) [4] [0, 1, 5, 6, 16, 17] (S' := [(0, .slice A_a0 a0.length c_a0), (1, .int .i64 a1), (5, .slice A5 x4.length cp6), (6, .int .i64 x7), (16, .agg ((([.int .i64 ((gt a0 x7).ID), .string ((gt a0 x7).Name), .string ((gt a0 x7).Data), .bool ((gt a0 x7).Sealed), .int .i64 ((gt a0 x7).Until), .slice A18 (((gt a0 x7).Holds).length) cp19] : List Value))).toArray), (17, .int .i64 a1)]) (by kernel_rfl) ?_
        obtain ⟨y22, hc21, h2⟩ := bindS h2
        try dsimp only at h2
        refine OpsT.cons (Does.call (d := some 18) (n := 12) (vs := [.agg ((([.int .i64 ((gt a0 x7).ID), .string ((gt a0 x7).Name), .string ((gt a0 x7).Data), .bool ((gt a0 x7).Sealed), .int .i64 ((gt a0 x7).Until), .slice A18 (((gt a0 x7).Holds).length) cp19] : List Value))).toArray, .int .i64 a1]) (by kernel_rfl) en12 (c12 w0 w _ _ hI hT ((gt a0 x7).ID) ((gt a0 x7).Name) ((gt a0 x7).Data) ((gt a0 x7).Sealed) ((gt a0 x7).Until) A18 cp19 ((gt a0 x7).Holds) hr20 a1 _ hc21) ?_)
        rintro e w ⟨rfl, hI⟩
        refine ⟨_, rfl, ?_⟩
        refine OpsT.pures (r := []) [6] [0, 1, 5, 6, 19] (S' := [(0, .slice A_a0 a0.length c_a0), (1, .int .i64 a1), (5, .slice A5 x4.length cp6), (6, .int .i64 x7), (19, .bool (y22 == 0))]) (by kernel_rfl) ?_
        refine OpsT.done ?_
        refine Qn.then ?_
        by_cases hb23 : (y22 == 0) = true
        · rw [if_pos hb23] at h2
          refine CodT.yes' (b := y22 == 0) (by kernel_rfl) hb23 ?_
          refine CodT.regionL [0, 1, 2, 3, 4, 5, 6, 7, 8] (by kernel_rfl) ?_
          refine OpsT.pures (r := [3, 4, 5, 6, 7, 8]) [0, 1, 2] [0, 1, 6, 20, 21, 22] (S' := [(0, .slice A_a0 a0.length c_a0), (1, .int .i64 a1), (6, .int .i64 x7), (20, .slice A5 x4.length cp6), (21, .slice A_a0 a0.length c_a0), (22, .int .i64 x7)]) (by kernel_rfl) ?_
          obtain ⟨hg24, h2⟩ := guardS h2
          obtain ⟨g25, o29, A30, cp31, hA26, hr27, hr32⟩ := RdX_ApiFile.get hr_a0 hg24.1 hg24.2
          refine OpsT.cons (Does.yi (Yl.indexSlice (d := 23) (T := 22) (cc := c_a0) (k := .i64) (j := x7) (g := g25) (o := o29) (by kernel_rfl) Go.Proofs.Tryd.underlying22 ty27 hA26 hg24.1 hg24.2) hI ?_)
          refine OpsT.pures (r := [5, 6, 7, 8]) [4] [0, 1, 6, 20, 24] (S' := [(0, .slice A_a0 a0.length c_a0), (1, .int .i64 a1), (6, .int .i64 x7), (20, .slice A5 x4.length cp6), (24, .pointer (some ⟨g25, o29 + x7.toNat * 6, none⟩))]) (by kernel_rfl) ?_
          refine OpsT.cons (Does.yi (Yl.load (d := 25) (T := 3) (v := .int .i64 ((gt a0 x7).ID)) (by kernel_rfl) (ldR ty3 (v := .int .i64 ((gt a0 x7).ID)) 0 (fun w hC => hr27 w0 w _ hC) (by kernel_rfl))) hI ?_)
          refine OpsT.cons (Does.buildSlice (en := (cI .i64)) (d := 26) (n := 1) (T := 32) (ps := [(0, .int .i64 ((gt a0 x7).ID))]) ([(gt a0 x7).ID] : List Int) (by kernel_rfl) Go.Proofs.Tryd.underlying32 ty3 (by kernel_rfl) (by kernel_rfl) (by kernel_rfl) (by kernel_rfl) (len_all (fun _ => rfl)) hI ?_)
          intro b33 w hI
          obtain ⟨hg34, h2⟩ := guardS h2
          have hI := hI.mono (pick2 _ _ _)
          refine OpsT.cons (Does.append (d := 27) (t := 32) (tx := 32) (ty := 32) (ys := x4) (zs := ([(gt a0 x7).ID] : List Int)) (x := .slice (some ⟨b33, 0, none⟩) (([(gt a0 x7).ID] : List Int).length) 1) (by kernel_rfl) Go.Proofs.Tryd.underlying32 ty3 (by kernel_rfl) hI (src_own Go.Proofs.Tryd.underlying32 (hI.mono (pick2 _ _ _)) (one_flat _ (fun _ => rfl))) (ownS_facts (hI.mono (pick2 _ _ _))).2.2 (by unfold LIM at hg34; omega) hg34 ?_)
          intro A35 cp36 w hI
          refine OpsT.pures (r := []) [8] [0, 1, 5, 6] (S' := [(0, .slice A_a0 a0.length c_a0), (1, .int .i64 a1), (5, .slice A35 ((x4 ++ ([(gt a0 x7).ID] : List Int)).length) cp36), (6, .int .i64 x7)]) (by kernel_rfl) ?_
          refine OpsT.done ?_
          refine Qn.block_normal ?_
          have hI := hI.mono (pick2 _ _ _)
          have hI := hI.drop
          have e := someS h2
          subst e
          exact Qn.thenJ fun a ha => ⟨x4 ++ ([(gt a0 x7).ID] : List Int), A35, cp36, rfl, ha.keep [0, 1, 5, 6] (by kernel_rfl), hI⟩
        · rw [if_neg hb23] at h2
          refine CodT.no' (b := y22 == 0) (by kernel_rfl) (by simpa using hb23) ?_
          refine CodT.skip ?_
          refine Qn.block_normal ?_
          have e := someS h2
          subst e
          exact Qn.thenJ fun a ha => ⟨x4, A5, cp6, rfl, ha.keep [0, 1, 5, 6] (by kernel_rfl), hI⟩
      ·
        rintro a w ⟨x9, A10, cp11, rfl, ha, hI⟩
        try dsimp only at h1
        refine CodT.of ?_ ha
        refine CodT.regionL [0, 1, 2] (by kernel_rfl) ?_
        refine OpsT.pures (r := []) [0, 1, 2] [0, 1, 5, 6] (S' := [(0, .slice A_a0 a0.length c_a0), (1, .int .i64 a1), (5, .slice A10 x9.length cp11), (6, .int .i64 (wi64 (x7 + 1)))]) (by kernel_rfl) ?_
        refine OpsT.done ?_
        exact Qn.thenJ fun a ha => ⟨k, Nat.lt_succ_self k, x9, wi64 (x7 + 1), A10, cp11, h1, ha.keep [0, 1, 5, 6] (by kernel_rfl), hI⟩
    · rw [if_neg hb8] at h1
      refine CodT.no' (b := decide (x7 < (a0.length : Int))) (by kernel_rfl) (by simpa using hb8) ?_
      refine CodT.exit ?_
      refine Qn.exit_then ?_
      refine Qn.exit_then ?_
      refine Qn.block ?_
      have e := someS h1
      subst e
      exact Qn.thenJ fun a ha => ⟨x4, A5, cp6, rfl, ha.keep [5] (by kernel_rfl), hI⟩
  ·
    rintro a w ⟨x1, A2, cp3, rfl, ha, hI⟩
    try dsimp only at h0
    refine Qn.of ?_ ha
    refine Qn.then ?_
    refine CodT.seq ?_
    refine CodT.regionL [0, 1] (by kernel_rfl) ?_
    refine OpsT.pures (r := []) [0, 1] [4] (S' := [(4, .slice A2 x1.length cp3)]) (by kernel_rfl) ?_
    refine OpsT.done ?_
    refine Qn.then ?_
    refine CodT.ret ?_
    have e := someS h0
    subst e
    refine Qn.keep [4] (S' := [(4, .slice A2 x1.length cp3)]) (by kernel_rfl) ?_
    exact post_ret (v := .slice A2 x1.length cp3) (fun a ha => RunRes.run (vs := [.slice A2 x1.length cp3]) (.tmp (t := 4) (by kernel_rfl) .nil) ha (by kernel_rfl)) ⟨A2, cp3, rfl, hI⟩
set_option maxRecDepth 100000 in
set_option maxHeartbeats 4000000 in
/-- cenotaph/cenotaphref05.Row -/
theorem c15 (w0 w : World) (Z : Hp) (A : HP) (hI : Inv w0 Z w A) (hT : Tabs Z) (A_a0 : Option Addr) (c_a0 : Nat) (a0 : (List Int)) (hr_a0 : RdS Z (cI .i64) 1 A_a0 c_a0 a0) (A_a1 : Option Addr) (c_a1 : Nat) (a1 : (List Int)) (hr_a1 : RdS Z (cI .i64) 1 A_a1 c_a1 a1) (r : Bool) (h0 : ref05_Row a0 a1 = some r) :
    Calls prog 15 #[.slice A_a0 a0.length c_a0, .slice A_a1 a1.length c_a1] w (fun e w' => e = .returned (.bool r) ∧ Inv w0 Z w' A) := by
  have e4 := calls_intro (R := (fun e w' => e = .returned (.bool r) ∧ Inv w0 Z w' A)) (w := w) (args := [.slice A_a0 a0.length c_a0, .slice A_a1 a1.length c_a1]) (fn := Go.Proofs.Tryd.f15) 26 Go.Proofs.Tryd.func15 (by rfl) Go.Proofs.Tryd.ntmps15 (by kernel_rfl)
  refine e4 ?_
  clear e4
  unfold ref05_Row at h0
  refine CodT.seq ?_
  refine CodT.regionL [0] (by kernel_rfl) ?_
  refine OpsT.pures (r := []) [0] [0, 1] (S' := [(0, .slice A_a0 a0.length c_a0), (1, .slice A_a1 a1.length c_a1)]) (by kernel_rfl) ?_
  refine OpsT.done ?_
  refine Qn.then ?_
  refine CodT.seq ?_
  refine CodT.seq ?_
  refine CodT.regionL [0, 1, 2, 3, 4] (by kernel_rfl) ?_
  refine OpsT.pures (r := []) [0, 1, 2, 3, 4] [0, 1, 10] (S' := [(0, .slice A_a0 a0.length c_a0), (1, .slice A_a1 a1.length c_a1), (10, .bool ((a0.length : Int) != (a1.length : Int)))]) (by kernel_rfl) ?_
  refine OpsT.done ?_
  refine Qn.then ?_
  by_cases hb1 : ((a0.length : Int) != (a1.length : Int)) = true
  · rw [if_pos hb1] at h0
    refine CodT.yes' (b := (a0.length : Int) != (a1.length : Int)) (by kernel_rfl) hb1 ?_
    refine CodT.seq ?_
    refine CodT.regionL [0] (by kernel_rfl) ?_
    refine OpsT.pures (r := []) [0] [4] (S' := [(4, .bool false)]) (by kernel_rfl) ?_
    refine OpsT.done ?_
    refine Qn.then ?_
    refine CodT.ret ?_
    refine Qn.ret_then ?_
    have e := someS h0
    subst e
    refine Qn.keep [4] (S' := [(4, .bool false)]) (by kernel_rfl) ?_
    exact post_ret (v := .bool false) (fun a ha => RunRes.run (vs := [.bool false]) (.tmp (t := 4) (by kernel_rfl) .nil) ha (by kernel_rfl)) ⟨rfl, hI⟩
  · rw [if_neg hb1] at h0
    refine CodT.no' (b := (a0.length : Int) != (a1.length : Int)) (by kernel_rfl) (by simpa using hb1) ?_
    refine CodT.skip ?_
    refine Qn.then ?_
    refine CodT.seq ?_
    refine CodT.seq ?_
    refine CodT.regionL [0] (by kernel_rfl) ?_
    refine OpsT.pures (r := []) [0] [0, 1, 5] (S' := [(0, .slice A_a0 a0.length c_a0), (1, .slice A_a1 a1.length c_a1), (5, .int .i64 0)]) (by kernel_rfl) ?_
    refine OpsT.done ?_
    refine Qn.then ?_
    obtain ⟨r1, h1, h0⟩ := bindS h0
    refine CodT.meet1 (fun a w => .inr () = r1 ∧ Fr 26 [] a ∧ Inv w0 Z w A) ?_ ?_
    ·
      refine CodT.block ?_
      refine (fun a ha => wp_loopN (fun k a w => ∃ (x2 : Int), ref05_Row.l0 a0 a1 k x2 = some r1 ∧ Fr 26 [(0, .slice A_a0 a0.length c_a0), (1, .slice A_a1 a1.length c_a1), (5, .int .i64 x2)] a ∧ Inv w0 Z w A) ?_ FU a w ⟨0, h1, ha.keep [0, 1, 5] (by kernel_rfl), hI⟩)
      clear h1 hI
      rintro k a w ⟨x2, h1, ha, hI⟩
      rcases k with _ | k
      · cases h1
      simp only [ref05_Row.l0] at h1
      refine CodT.of ?_ ha
      refine CodT.seq ?_
      refine CodT.seq ?_
      refine CodT.regionL [0, 1, 2, 3] (by kernel_rfl) ?_
      refine OpsT.pures (r := []) [0, 1, 2, 3] [0, 1, 5, 14] (S' := [(0, .slice A_a0 a0.length c_a0), (1, .slice A_a1 a1.length c_a1), (5, .int .i64 x2), (14, .bool (decide (x2 < (a0.length : Int))))]) (by kernel_rfl) ?_
      refine OpsT.done ?_
      refine Qn.then ?_
      by_cases hb3 : (decide (x2 < (a0.length : Int))) = true
      · rw [if_pos hb3] at h1
        refine CodT.yes' (b := decide (x2 < (a0.length : Int))) (by kernel_rfl) hb3 ?_
        refine CodT.skip ?_
        refine Qn.then ?_
        refine CodT.seq ?_
        refine CodT.block ?_
        refine CodT.seq ?_
        refine CodT.drawI (n := 9) [] (by kernel_rfl) (by kernel_rfl) hI ?_
        intro w hI
        refine GmT.p' 0 17 (.slice A_a0 a0.length c_a0) (by kernel_rfl) (by kernel_rfl) ?_
        refine GmT.p' 1 18 (.int .i64 x2) (by kernel_rfl) (by kernel_rfl) ?_
        refine GmT.p' 4 21 (.slice A_a1 a1.length c_a1) (by kernel_rfl) (by kernel_rfl) ?_
        refine GmT.p' 5 22 (.int .i64 x2) (by kernel_rfl) (by kernel_rfl) ?_
        obtain ⟨hg4, h1⟩ := guardS h1
        obtain ⟨g5, o9, hA6, hr7, hl8⟩ := RdS.get hr_a0 hg4.1 hg4.2
        refine GmT.r (i := 2) 2 (by kernel_rfl) (by kernel_rfl) (Yl.indexSlice (d := 19) (T := 32) (cc := c_a0) (k := .i64) (j := x2) (g := g5) (o := o9) (by kernel_rfl) Go.Proofs.Tryd.underlying32 ty3 hA6 hg4.1 hg4.2) hI ?_
        refine GmT.r (i := 3) 2 (by kernel_rfl) (by kernel_rfl) (Yl.load (d := 20) (T := 3) (v := .int .i64 (gt a0 x2)) (by kernel_rfl) (ldR ty3 (v := .int .i64 (gt a0 x2)) 0 (fun w hC => hr7 w0 w _ hC) (by kernel_rfl))) hI ?_
        obtain ⟨hg10, h1⟩ := guardS h1
        obtain ⟨g11, o15, hA12, hr13, hl14⟩ := RdS.get hr_a1 hg10.1 hg10.2
        refine GmT.r (i := 6) 2 (by kernel_rfl) (by kernel_rfl) (Yl.indexSlice (d := 23) (T := 32) (cc := c_a1) (k := .i64) (j := x2) (g := g11) (o := o15) (by kernel_rfl) Go.Proofs.Tryd.underlying32 ty3 hA12 hg10.1 hg10.2) hI ?_
        refine GmT.r (i := 7) 2 (by kernel_rfl) (by kernel_rfl) (Yl.load (d := 24) (T := 3) (v := .int .i64 (gt a1 x2)) (by kernel_rfl) (ldR ty3 (v := .int .i64 (gt a1 x2)) 0 (fun w hC => hr13 w0 w _ hC) (by kernel_rfl))) hI ?_
        refine GmT.p' 8 25 (.bool ((gt a0 x2) != (gt a1 x2))) (by kernel_rfl) (by kernel_rfl) ?_
        refine GmT.done (by kernel_rfl) ?_
        refine Qn.then ?_
        by_cases hb16 : ((gt a0 x2) != (gt a1 x2)) = true
        · rw [if_pos hb16] at h1
          refine CodT.yes' (b := (gt a0 x2) != (gt a1 x2)) (by kernel_rfl) hb16 ?_
          refine CodT.seq ?_
          refine CodT.regionL [0] (by kernel_rfl) ?_
          refine OpsT.pures (r := []) [0] [4] (S' := [(4, .bool false)]) (by kernel_rfl) ?_
          refine OpsT.done ?_
          refine Qn.then ?_
          refine CodT.ret ?_
          refine Qn.block_ret ?_
          refine Qn.ret_then ?_
          refine Qn.ret_then ?_
          refine Qn.block_ret ?_
          refine Qn.ret_then ?_
          refine Qn.ret_then ?_
          have e := someS h1
          subst e
          try dsimp only at h0
          have e := someS h0
          subst e
          refine Qn.keep [4] (S' := [(4, .bool false)]) (by kernel_rfl) ?_
          exact post_ret (v := .bool false) (fun a ha => RunRes.run (vs := [.bool false]) (.tmp (t := 4) (by kernel_rfl) .nil) ha (by kernel_rfl)) ⟨rfl, hI⟩
        · rw [if_neg hb16] at h1
          refine CodT.no' (b := (gt a0 x2) != (gt a1 x2)) (by kernel_rfl) (by simpa using hb16) ?_
          refine CodT.skip ?_
          refine Qn.block_normal ?_
          refine Qn.then ?_
          refine CodT.regionL [0, 1, 2] (by kernel_rfl) ?_
          refine OpsT.pures (r := []) [0, 1, 2] [0, 1, 5] (S' := [(0, .slice A_a0 a0.length c_a0), (1, .slice A_a1 a1.length c_a1), (5, .int .i64 (wi64 (x2 + 1)))]) (by kernel_rfl) ?_
          refine OpsT.done ?_
          exact Qn.thenJ fun a ha => ⟨k, Nat.lt_succ_self k, wi64 (x2 + 1), h1, ha.keep [0, 1, 5] (by kernel_rfl), hI⟩
      · rw [if_neg hb3] at h1
        refine CodT.no' (b := decide (x2 < (a0.length : Int))) (by kernel_rfl) (by simpa using hb3) ?_
        refine CodT.exit ?_
        refine Qn.exit_then ?_
        refine Qn.exit_then ?_
        refine Qn.block ?_
        have e := someS h1
        subst e
        exact Qn.thenJ fun a ha => ⟨rfl, ha.keep [] (by kernel_rfl), hI⟩
    ·
      rintro a w ⟨rfl, ha, hI⟩
      try dsimp only at h0
      refine Qn.of ?_ ha
      refine Qn.then ?_
      refine CodT.seq ?_
      refine CodT.regionL [0] (by kernel_rfl) ?_
      refine OpsT.pures (r := []) [0] [4] (S' := [(4, .bool true)]) (by kernel_rfl) ?_
      refine OpsT.done ?_
      refine Qn.then ?_
      refine CodT.ret ?_
      have e := someS h0
      subst e
      refine Qn.keep [4] (S' := [(4, .bool true)]) (by kernel_rfl) ?_
      exact post_ret (v := .bool true) (fun a ha => RunRes.run (vs := [.bool true]) (.tmp (t := 4) (by kernel_rfl) .nil) ha (by kernel_rfl)) ⟨rfl, hI⟩
set_option maxRecDepth 100000 in
set_option maxHeartbeats 4000000 in
/-- cenotaph/cenotaphref07.Floor -/
theorem c19 (w0 w : World) (Z : Hp) (A : HP) (hI : Inv w0 Z w A) (hT : Tabs Z) (a0 : Int) (a1 : Int) (r : Int) (h0 : ref07_Floor a0 a1 = some r) :
    Calls prog 19 #[.int .i64 a0, .int .i64 a1] w (fun e w' => e = .returned (.int .i64 r) ∧ Inv w0 Z w' A) := by
  have e4 := calls_intro (R := (fun e w' => e = .returned (.int .i64 r) ∧ Inv w0 Z w' A)) (w := w) (args := [.int .i64 a0, .int .i64 a1]) (fn := Go.Proofs.Tryd.f19) 14 Go.Proofs.Tryd.func19 (by rfl) Go.Proofs.Tryd.ntmps19 (by kernel_rfl)
  refine e4 ?_
  clear e4
  unfold ref07_Floor at h0
  refine CodT.seq ?_
  refine CodT.regionL [0] (by kernel_rfl) ?_
  refine OpsT.pures (r := []) [0] [0, 1] (S' := [(0, .int .i64 a0), (1, .int .i64 a1)]) (by kernel_rfl) ?_
  refine OpsT.done ?_
  refine Qn.then ?_
  obtain ⟨r1, h1, h0⟩ := bindS h0
  refine CodT.meet (fun a w => ∃ (x1 : Int), x1 = r1 ∧ Fr 14 [(0, .int .i64 a0), (1, .int .i64 x1)] a ∧ Inv w0 Z w A) ?_ ?_
  ·
    refine CodT.seq ?_
    refine CodT.regionL [0, 1] (by kernel_rfl) ?_
    refine OpsT.pures (r := []) [0, 1] [0, 1, 6] (S' := [(0, .int .i64 a0), (1, .int .i64 a1), (6, .bool (decide (a1 < 0)))]) (by kernel_rfl) ?_
    refine OpsT.done ?_
    refine Qn.then ?_
    by_cases hb2 : (decide (a1 < 0)) = true
    · rw [if_pos hb2] at h1
      refine CodT.yes' (b := decide (a1 < 0)) (by kernel_rfl) hb2 ?_
      refine CodT.regionL [0] (by kernel_rfl) ?_
      refine OpsT.pures (r := []) [0] [0, 1] (S' := [(0, .int .i64 a0), (1, .int .i64 0)]) (by kernel_rfl) ?_
      refine OpsT.done ?_
      have e := someS h1
      subst e
      exact Qn.thenJ fun a ha => ⟨0, rfl, ha.keep [0, 1] (by kernel_rfl), hI⟩
    · rw [if_neg hb2] at h1
      refine CodT.no' (b := decide (a1 < 0)) (by kernel_rfl) (by simpa using hb2) ?_
      refine CodT.skip ?_
      have e := someS h1
      subst e
      exact Qn.thenJ fun a ha => ⟨a1, rfl, ha.keep [0, 1] (by kernel_rfl), hI⟩
  ·
    rintro a w ⟨x1, rfl, ha, hI⟩
    try dsimp only at h0
    refine CodT.of ?_ ha
    obtain ⟨r1, h1, h0⟩ := bindS h0
    refine CodT.meet (fun a w => ∃ (x3 : Int), x3 = r1 ∧ Fr 14 [(0, .int .i64 a0), (1, .int .i64 x3)] a ∧ Inv w0 Z w A) ?_ ?_
    ·
      refine CodT.seq ?_
      refine CodT.regionL [0, 1] (by kernel_rfl) ?_
      refine OpsT.pures (r := []) [0, 1] [0, 1, 8] (S' := [(0, .int .i64 a0), (1, .int .i64 x1), (8, .bool (decide (x1 > 1099511627776)))]) (by kernel_rfl) ?_
      refine OpsT.done ?_
      refine Qn.then ?_
      by_cases hb4 : (decide (x1 > 1099511627776)) = true
      · rw [if_pos hb4] at h1
        refine CodT.yes' (b := decide (x1 > 1099511627776)) (by kernel_rfl) hb4 ?_
        refine CodT.regionL [0] (by kernel_rfl) ?_
        refine OpsT.pures (r := []) [0] [0, 1] (S' := [(0, .int .i64 a0), (1, .int .i64 1099511627776)]) (by kernel_rfl) ?_
        refine OpsT.done ?_
        have e := someS h1
        subst e
        exact Qn.thenJ fun a ha => ⟨1099511627776, rfl, ha.keep [0, 1] (by kernel_rfl), hI⟩
      · rw [if_neg hb4] at h1
        refine CodT.no' (b := decide (x1 > 1099511627776)) (by kernel_rfl) (by simpa using hb4) ?_
        refine CodT.skip ?_
        have e := someS h1
        subst e
        exact Qn.thenJ fun a ha => ⟨x1, rfl, ha.keep [0, 1] (by kernel_rfl), hI⟩
    ·
      rintro a w ⟨x3, rfl, ha, hI⟩
      try dsimp only at h0
      refine CodT.of ?_ ha
      refine CodT.seq ?_
      refine CodT.seq ?_
      refine CodT.regionL [0, 1, 2] (by kernel_rfl) ?_
      refine OpsT.pures (r := []) [0, 1, 2] [0, 1, 11] (S' := [(0, .int .i64 a0), (1, .int .i64 x3), (11, .bool (decide (x3 > a0)))]) (by kernel_rfl) ?_
      refine OpsT.done ?_
      refine Qn.then ?_
      by_cases hb5 : (decide (x3 > a0)) = true
      · rw [if_pos hb5] at h0
        refine CodT.yes' (b := decide (x3 > a0)) (by kernel_rfl) hb5 ?_
        refine CodT.seq ?_
        refine CodT.regionL [0, 1] (by kernel_rfl) ?_
        refine OpsT.pures (r := []) [0, 1] [4] (S' := [(4, .int .i64 x3)]) (by kernel_rfl) ?_
        refine OpsT.done ?_
        refine Qn.then ?_
        refine CodT.ret ?_
        refine Qn.ret_then ?_
        have e := someS h0
        subst e
        refine Qn.keep [4] (S' := [(4, .int .i64 x3)]) (by kernel_rfl) ?_
        exact post_ret (v := .int .i64 x3) (fun a ha => RunRes.run (vs := [.int .i64 x3]) (.tmp (t := 4) (by kernel_rfl) .nil) ha (by kernel_rfl)) ⟨rfl, hI⟩
      · rw [if_neg hb5] at h0
        refine CodT.no' (b := decide (x3 > a0)) (by kernel_rfl) (by simpa using hb5) ?_
        refine CodT.skip ?_
        refine Qn.then ?_
        refine CodT.seq ?_
        refine CodT.regionL [0, 1] (by kernel_rfl) ?_
        refine OpsT.pures (r := []) [0, 1] [4] (S' := [(4, .int .i64 a0)]) (by kernel_rfl) ?_
        refine OpsT.done ?_
        refine Qn.then ?_
        refine CodT.ret ?_
        have e := someS h0
        subst e
        refine Qn.keep [4] (S' := [(4, .int .i64 a0)]) (by kernel_rfl) ?_
        exact post_ret (v := .int .i64 a0) (fun a ha => RunRes.run (vs := [.int .i64 a0]) (.tmp (t := 4) (by kernel_rfl) .nil) ha (by kernel_rfl)) ⟨rfl, hI⟩
end Go.Cen
