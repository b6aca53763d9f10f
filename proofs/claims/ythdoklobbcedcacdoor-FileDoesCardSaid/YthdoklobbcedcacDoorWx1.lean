/- That the machine computes these: walks, printed by a program of ours. -/
import Derived.Test.YthdoklobbcedcacDoorPx
import Derived.Test.YthdoklobbcedcacDoorWx0
set_option linter.unusedVariables false
set_option linter.unusedSimpArgs false
namespace Go.Cen
set_option maxRecDepth 100000
set_option maxHeartbeats 4000000
/-- cenotaph/rule.due$1 -/
theorem c56 (w0 w : World) (Z : Hp) (A : HP)  (hT : Tabs Z) (l_a0 : Nat) {σ : Type} (J_a0 : σ → HP) (Y_a0 : σ → Int → ByteArray → ByteArray → Bool → Int → (List ByteArray) → Option σ) (s_a0 : σ) (hy_a0 : ∀ (w : World) (Z' : Hp) (R : HP) (s : σ) (x0 : Int) (x1 : ByteArray) (x2 : ByteArray) (x3 : Bool) (x4 : Int) (x5 : Option Addr) (x6 : Nat) (x7 : (List ByteArray)) (r : σ), RdS Z' cS 1 x5 x6 x7 → Z.le Z' → Y_a0 s x0 x1 x2 x3 x4 x7 = some r → Inv w0 Z' w (star (J_a0 s) R) → YAt prog l_a0 [.agg ([iv x0, .string x1, .string x2, .bool x3, iv x4, .slice x5 x7.length x6] : LV).toArray] w (fun e w' => e = .returned (.bool true) ∧ Inv w0 Z' w' (star (J_a0 r) R))) (b_a1 : Nat) (uc : Option Addr) (ubj : Nat) (ubf : (List ApiFile)) (ucc : RdX_ApiFile Z uc ubj ubf) (hz_a1 : Z b_a1 = some (.cells ([.slice uc ubf.length ubj] : LV).toArray 22 (0, 0))) (b_a2 : Nat) (ubg : Int) (hz_a2 : Z b_a2 = some (.cells ([iv ubg] : LV).toArray 3 (0, 0))) (hI : Inv w0 Z w (star (J_a0 s_a0) A)) (r : σ) (h0 : rule_due_1 Y_a0 s_a0 ubf ubg = some r) :
  Calls prog 56 #[.func (.yield l_a0) #[] #[], pb b_a1, pb b_a2] w (fun e w' => e = .returned (.tuple #[]) ∧ Inv w0 Z w' (star (J_a0 r) A)) := by
 have e4 := calls_intro (R := (fun e w' => e = .returned (.tuple #[]) ∧ Inv w0 Z w' (star (J_a0 r) A))) (w := w) (args := [.func (.yield l_a0) #[] #[], pb b_a1, pb b_a2]) (fn := Go.Proofs.Tryd.f56) 23 Go.Proofs.Tryd.func56 (by rfl) Go.Proofs.Tryd.ntmps56 (by kernel_rfl)
 refine e4 ?_
 clear e4
 unfold rule_due_1 at h0
 refine cQ ?_
 refine cR [0, 1, 2] (by kernel_rfl) ?_
 refine oC (Does.yi (Yl.load (d := 6) (T := 22) (v := .slice uc ubf.length ubj) (by kernel_rfl) (ldZ ty22 (l := ([.slice uc ubf.length ubj] : LV)) (o := 0) (v := .slice uc ubf.length ubj) hz_a1 (by kernel_rfl))) hI ?_)
 refine oP (r := []) [1, 2] (S' := [(0, .func (.yield l_a0) #[] #[]), (2, pb b_a2), (6, .slice uc ubf.length ubj), (7, iv (ubf.length : Int)), (8, iv 0)]) (by kernel_rfl) ?_
 refine oD ?_
 refine qT ?_
 obtain ⟨r1, h1, h0⟩ := bindS h0
 refine CodT.meet1 (fun a w => ∃ (x1 : σ), .inr x1 = r1 ∧ Fr 23 [] a ∧ Inv w0 Z w (star (J_a0 x1) A)) ?_ ?_
 ·
  refine CodT.block ?_
  refine (fun a ha => wp_loopN (fun k a w => ∃ (x2 : Int) (x3 : σ), rule_due_1.l0 ubf ubg Y_a0 k x2 x3 = some r1 ∧ Fr 23 [(0, .func (.yield l_a0) #[] #[]), (2, pb b_a2), (6, .slice uc ubf.length ubj), (7, iv (ubf.length : Int)), (8, iv x2)] a ∧ Inv w0 Z w (star (J_a0 x3) A)) ?_ FU a w ⟨0, s_a0, h1, ha.keep [0, 2, 6, 7, 8] (by kernel_rfl), hI⟩)
  clear h1 hI
  rintro k a w ⟨x2, x3, h1, ha, hI⟩
  rcases k with _ | k
  ·
   cases h1
  simp only [rule_due_1.l0] at h1
  refine CodT.of ?_ ha
  refine cQ ?_
  refine cR [0] (by kernel_rfl) ?_
  refine oP (r := []) [0] (S' := [(0, .func (.yield l_a0) #[] #[]), (2, pb b_a2), (6, .slice uc ubf.length ubj), (7, iv (ubf.length : Int)), (8, iv x2), (9, .bool (decide (x2 < (ubf.length : Int))))]) (by kernel_rfl) ?_
  refine oD ?_
  refine qT ?_
  refine cQ ?_
  by_cases hb4 : (decide (x2 < (ubf.length : Int))) = true
  ·
   rw [if_pos hb4] at h1
   refine CodT.yes' (b := decide (x2 < (ubf.length : Int))) (by kernel_rfl) hb4 ?_
   refine CodT.skip ?_
   refine qT ?_
   refine cQ ?_
   refine CodT.block ?_
   refine cQ ?_
   refine cR [0, 1, 2, 3] (by kernel_rfl) ?_
   obtain ⟨hg5, h1⟩ := guardS h1
   obtain ⟨g6, o10, A11, cp12, hA7, hr8, hr13⟩ := RdX_ApiFile.get ucc hg5.1 hg5.2
   refine oC (Does.yi (Yl.indexSlice (d := 10) (T := 22) (cc := ubj) (k := .i64) (j := x2) (g := g6) (o := o10) (by kernel_rfl) Go.Proofs.Tryd.underlying22 ty27 hA7 hg5.1 hg5.2) hI ?_)
   refine oC (Does.yi (Yl.load (d := 11) (T := 27) (v := .agg ([iv ((gt ubf x2).ID), .string ((gt ubf x2).Name), .string ((gt ubf x2).Data), .bool ((gt ubf x2).Sealed), iv ((gt ubf x2).Until), .slice A11 (((gt ubf x2).Holds).length) cp12] : LV).toArray) (by kernel_rfl) (ldRN ty27 (cs := ([iv ((gt ubf x2).ID), .string ((gt ubf x2).Name), .string ((gt ubf x2).Data), .bool ((gt ubf x2).Sealed), iv ((gt ubf x2).Until), .slice A11 (((gt ubf x2).Holds).length) cp12] : LV)) 0 (fun w hC => hr8 w0 w _ hC) (by kernel_rfl) (whole _ _ (by kernel_rfl)))) hI ?_)
   refine oC (Does.allocL (d := 5) (T := 27) ((([iv 0, .string (⟨#[]⟩ : ByteArray), .string (⟨#[]⟩ : ByteArray), .bool false, iv 0, .slice none 0 0] : LV))) (by kernel_rfl) ty27 hI (by kernel_rfl) ?_)
   intro b14 w hI
   refine oC (dS (T := 27) (b := b14) (o := 0) (v := .agg ([iv ((gt ubf x2).ID), .string ((gt ubf x2).Name), .string ((gt ubf x2).Data), .bool ((gt ubf x2).Sealed), iv ((gt ubf x2).Until), .slice A11 (((gt ubf x2).Holds).length) cp12] : LV).toArray) (l := (([iv 0, .string (⟨#[]⟩ : ByteArray), .string (⟨#[]⟩ : ByteArray), .bool false, iv 0, .slice none 0 0] : LV))) (vs := ([iv ((gt ubf x2).ID), .string ((gt ubf x2).Name), .string ((gt ubf x2).Data), .bool ((gt ubf x2).Sealed), iv ((gt ubf x2).Until), .slice A11 (((gt ubf x2).Holds).length) cp12] : LV)) (L' := ([iv ((gt ubf x2).ID), .string ((gt ubf x2).Name), .string ((gt ubf x2).Data), .bool ((gt ubf x2).Sealed), iv ((gt ubf x2).Until), .slice A11 (((gt ubf x2).Holds).length) cp12] : LV)) (by kernel_rfl) ty27 hI (by kernel_rfl) (by kernel_rfl) (by kernel_rfl) (by kernel_rfl) (by kernel_rfl) ?_)
   intro w hI
   refine oD ?_
   refine qT ?_
   obtain ⟨r2, h2, h1⟩ := bindS h1
   refine CodT.meet (fun a w => ∃ (x15 : Bool) (x16 : σ), (x15, x16) = r2 ∧ Fr 23 [(0, .func (.yield l_a0) #[] #[]), (2, pb b_a2), (6, .slice uc ubf.length ubj), (7, iv (ubf.length : Int)), (8, iv x2), (21, .bool x15)] a ∧ Inv w0 Z w (star (J_a0 x16) A)) ?_ ?_
   ·
    refine cR [0, 1, 2, 3, 4, 5, 6, 7, 8, 9] (by kernel_rfl) ?_
    refine oC (Does.yi (Yl.load (d := 12) (T := 27) (v := .agg ([iv ((gt ubf x2).ID), .string ((gt ubf x2).Name), .string ((gt ubf x2).Data), .bool ((gt ubf x2).Sealed), iv ((gt ubf x2).Until), .slice A11 (((gt ubf x2).Holds).length) cp12] : LV).toArray) (by kernel_rfl) (ldBN ty27 (l := ([iv ((gt ubf x2).ID), .string ((gt ubf x2).Name), .string ((gt ubf x2).Data), .bool ((gt ubf x2).Sealed), iv ((gt ubf x2).Until), .slice A11 (((gt ubf x2).Holds).length) cp12] : LV)) (o := 0) (cs := ([iv ((gt ubf x2).ID), .string ((gt ubf x2).Name), .string ((gt ubf x2).Data), .bool ((gt ubf x2).Sealed), iv ((gt ubf x2).Until), .slice A11 (((gt ubf x2).Holds).length) cp12] : LV)) (ent_refl _) (by kernel_rfl) (whole _ _ (by kernel_rfl)))) hI ?_)
    refine oC (Does.yi (Yl.load (d := 13) (T := 3) (v := iv ubg) (by kernel_rfl) (ldZ ty3 (l := ([iv ubg] : LV)) (o := 0) (v := iv ubg) hz_a2 (by kernel_rfl))) hI ?_)
    obtain ⟨y18, hc17, h2⟩ := bindS h2
    try dsimp only at h2
    refine oC (Does.call (d := some 14) (n := 13) (vs := [.agg ([iv ((gt ubf x2).ID), .string ((gt ubf x2).Name), .string ((gt ubf x2).Data), .bool ((gt ubf x2).Sealed), iv ((gt ubf x2).Until), .slice A11 (((gt ubf x2).Holds).length) cp12] : LV).toArray, iv ubg]) (by kernel_rfl) en13 (c13 w0 w _ _ hI hT ((gt ubf x2).ID) ((gt ubf x2).Name) ((gt ubf x2).Data) ((gt ubf x2).Sealed) ((gt ubf x2).Until) A11 cp12 ((gt ubf x2).Holds) hr13 ubg _ hc17) ?_)
    rintro e w ⟨rfl, hI⟩
    refine ⟨_, rfl, ?_⟩
    refine oP (r := [5, 6, 7, 8, 9]) [3, 4] (S' := [(0, .func (.yield l_a0) #[] #[]), (2, pb b_a2), (5, pb b14), (6, .slice uc ubf.length ubj), (7, iv (ubf.length : Int)), (8, iv x2), (16, .bool (y18 == 0))]) (by kernel_rfl) ?_
    by_cases hb19 : (y18 == 0) = true
    ·
     rw [if_pos hb19] at h2
     refine oK [0, 2, 5, 6, 7, 8, 16] (S' := [(0, .func (.yield l_a0) #[] #[]), (2, pb b_a2), (5, pb b14), (6, .slice uc ubf.length ubj), (7, iv (ubf.length : Int)), (8, iv x2), (16, .bool true)]) (by (try simp only [hb19]); kernel_rfl) ?_
     refine oP (r := [6, 7, 8, 9]) [5] (S' := [(0, .func (.yield l_a0) #[] #[]), (2, pb b_a2), (5, pb b14), (6, .slice uc ubf.length ubj), (7, iv (ubf.length : Int)), (8, iv x2), (16, .bool true), (17, .func (.yield l_a0) #[] #[])]) (by kernel_rfl) ?_
     refine oC (Does.yi (Yl.load (d := 18) (T := 27) (v := .agg ([iv ((gt ubf x2).ID), .string ((gt ubf x2).Name), .string ((gt ubf x2).Data), .bool ((gt ubf x2).Sealed), iv ((gt ubf x2).Until), .slice A11 (((gt ubf x2).Holds).length) cp12] : LV).toArray) (by kernel_rfl) (ldBN ty27 (l := ([iv ((gt ubf x2).ID), .string ((gt ubf x2).Name), .string ((gt ubf x2).Data), .bool ((gt ubf x2).Sealed), iv ((gt ubf x2).Until), .slice A11 (((gt ubf x2).Holds).length) cp12] : LV)) (o := 0) (cs := ([iv ((gt ubf x2).ID), .string ((gt ubf x2).Name), .string ((gt ubf x2).Data), .bool ((gt ubf x2).Sealed), iv ((gt ubf x2).Until), .slice A11 (((gt ubf x2).Holds).length) cp12] : LV)) (ent_refl _) (by kernel_rfl) (whole _ _ (by kernel_rfl)))) hI ?_)
     have hI := hI.mono (pick2 _ _ _)
     obtain ⟨y20, hc21, h2⟩ := bindS h2
     try dsimp only at h2
     refine oC (Does.yieldCall (d := some 19) (l := l_a0) (vs := [.agg ([iv ((gt ubf x2).ID), .string ((gt ubf x2).Name), .string ((gt ubf x2).Data), .bool ((gt ubf x2).Sealed), iv ((gt ubf x2).Until), .slice A11 (((gt ubf x2).Holds).length) cp12] : LV).toArray]) (by kernel_rfl) (hy_a0 w Z _ x3 ((gt ubf x2).ID) ((gt ubf x2).Name) ((gt ubf x2).Data) ((gt ubf x2).Sealed) ((gt ubf x2).Until) A11 cp12 ((gt ubf x2).Holds) y20 hr13 (Hp.le_refl _) hc21 hI) ?_)
     rintro e w ⟨rfl, hI⟩
     refine ⟨_, rfl, ?_⟩
     refine oP (r := []) [8, 9] (S' := [(0, .func (.yield l_a0) #[] #[]), (2, pb b_a2), (6, .slice uc ubf.length ubj), (7, iv (ubf.length : Int)), (8, iv x2), (21, .bool false)]) (by kernel_rfl) ?_
     refine oD ?_
     have hI := hI.mono (pick2 _ _ _)
     have hI := hI.drop
     have e := someS h2
     subst e
     exact Qn.thenJ fun a ha => ⟨false, y20, rfl, ha.keep [0, 2, 6, 7, 8, 21] (by kernel_rfl), hI⟩
    ·
     rw [if_neg hb19] at h2
     have hb19 : (y18 == 0) = false := by simpa using hb19
     refine oK [0, 2, 5, 6, 7, 8, 16] (S' := [(0, .func (.yield l_a0) #[] #[]), (2, pb b_a2), (5, pb b14), (6, .slice uc ubf.length ubj), (7, iv (ubf.length : Int)), (8, iv x2), (16, .bool false)]) (by (try simp only [hb19]); kernel_rfl) ?_
     refine oP (r := []) [5, 6, 7, 8, 9] (S' := [(0, .func (.yield l_a0) #[] #[]), (2, pb b_a2), (6, .slice uc ubf.length ubj), (7, iv (ubf.length : Int)), (8, iv x2), (21, .bool false)]) (by kernel_rfl) ?_
     refine oD ?_
     have hI := hI.drop
     have e := someS h2
     subst e
     exact Qn.thenJ fun a ha => ⟨false, x3, rfl, ha.keep [0, 2, 6, 7, 8, 21] (by kernel_rfl), hI⟩
   ·
    rintro a w ⟨x15, x16, rfl, ha, hI⟩
    try dsimp only at h1
    refine CodT.of ?_ ha
    by_cases hb22 : x15 = true
    ·
     rw [if_pos hb22] at h1
     refine CodT.yes' (b := x15) (by kernel_rfl) hb22 ?_
     refine CodT.ret ?_
     refine Qn.block_ret ?_
     refine Qn.ret_then ?_
     refine Qn.ret_then ?_
     refine Qn.block_ret ?_
     refine Qn.ret_then ?_
     have e := someS h1
     subst e
     try dsimp only at h0
     have e := someS h0
     subst e
     refine qK [] (S' := []) (by kernel_rfl) ?_
     exact post_ret (v := .tuple #[]) (fun a ha => RunRes.run (vs := []) .nil ha (by kernel_rfl)) ⟨rfl, hI⟩
    ·
     rw [if_neg hb22] at h1
     refine CodT.no' (b := x15) (by kernel_rfl) (by simpa using hb22) ?_
     refine CodT.skip ?_
     refine Qn.block_normal ?_
     refine qT ?_
     refine cR [0, 1] (by kernel_rfl) ?_
     refine oP (r := []) [0, 1] (S' := [(0, .func (.yield l_a0) #[] #[]), (2, pb b_a2), (6, .slice uc ubf.length ubj), (7, iv (ubf.length : Int)), (8, iv (wi64 (x2 + 1)))]) (by kernel_rfl) ?_
     refine oD ?_
     exact Qn.thenJ fun a ha => ⟨k, Nat.lt_succ_self k, wi64 (x2 + 1), x16, h1, ha.keep [0, 2, 6, 7, 8] (by kernel_rfl), hI⟩
  ·
   rw [if_neg hb4] at h1
   refine CodT.no' (b := decide (x2 < (ubf.length : Int))) (by kernel_rfl) (by simpa using hb4) ?_
   refine CodT.exit ?_
   refine Qn.exit_then ?_
   refine Qn.exit_then ?_
   refine Qn.block ?_
   have e := someS h1
   subst e
   exact Qn.thenJ fun a ha => ⟨x3, rfl, ha.keep [] (by kernel_rfl), hI⟩
 ·
  rintro a w ⟨x1, rfl, ha, hI⟩
  try dsimp only at h0
  refine Qn.of ?_ ha
  have e := someS h0
  subst e
  refine qK [] (S' := []) (by kernel_rfl) ?_
  exact post_normal (v := .tuple #[]) (fun a ha => RunRes.run (vs := []) .nil ha (by kernel_rfl)) ⟨rfl, hI⟩
/-- cenotaph/rule.Due -/
theorem c16 (w0 w : World) (Z : Hp) (A : HP) (hI : Inv w0 Z w A) (hT : Tabs Z) (A_a0 : Option Addr) (c_a0 : Nat) (a0 : (List ApiFile)) (hr_a0 : RdX_ApiFile Z A_a0 c_a0 a0) (a1 : Int) (r : (List Int)) (h0 : rule_Due a0 a1 = some r) :
  Calls prog 16 #[.slice A_a0 a0.length c_a0, iv a1] w (fun e w' => ∃ (A1 : Option Addr) (c1 : Nat), e = .returned (.slice A1 r.length c1) ∧ Inv w0 Z w' (star (ownS 3 (cI .i64) 1 A1 c1 r) A)) := by
 have e4 := calls_introM (R := (fun e w' => ∃ (A1 : Option Addr) (c1 : Nat), e = .returned (.slice A1 r.length c1) ∧ Inv w0 Z w' (star (ownS 3 (cI .i64) 1 A1 c1 r) A))) (w := w) (args := [.slice A_a0 a0.length c_a0, iv a1]) (fn := Go.Proofs.Tryd.f16) 17 Go.Proofs.Tryd.func16 (by rfl) Go.Proofs.Tryd.ntmps16 (by kernel_rfl)
 refine e4 ?_
 clear e4
 unfold rule_Due at h0
 refine cQ ?_
 refine cR [0] (by kernel_rfl) ?_
 refine oP (r := []) [0] (S' := [(0, .slice A_a0 a0.length c_a0), (1, iv a1)]) (by kernel_rfl) ?_
 refine oD ?_
 refine qT ?_
 refine cQ ?_
 refine cR [0] (by kernel_rfl) ?_
 refine oC (Does.allocL (d := 5) (T := 32) ([.slice none 0 0] : LV) (by kernel_rfl) ty32 hI (by kernel_rfl) ?_)
 intro b1 w hI
 refine oD ?_
 refine qT ?_
 refine cQ ?_
 refine cQ ?_
 refine cR [0, 1, 2] (by kernel_rfl) ?_
 refine oP (r := [2]) [0, 1] (S' := [(5, pb b1), (7, .slice A_a0 a0.length c_a0), (8, iv a1)]) (by kernel_rfl) ?_
 obtain ⟨⟨y4, y10⟩, hc2, h0⟩ := bindS h0
 try dsimp only at h0
 refine oC (Does.call (d := some 9) (n := 32) (vs := [.slice A_a0 a0.length c_a0, iv a1]) (by kernel_rfl) en32 (c32 w0 w _ _ hI hT A_a0 c_a0 a0 hr_a0 a1 _ hc2) ?_)
 rintro e w ⟨b3, A5, cp6, b9, Z12, hle13, rfl, hr7, hz8, hz11, hI⟩
 refine ⟨_, rfl, ?_⟩
 refine oD ?_
 refine qT ?_
 refine CodT.block ?_
 have hI := ownS_nil (α := Int) hI 3 (cI .i64) 1
 refine CodT.rangeFn (f := 56) (cp := [pb b3, pb b9]) (by kernel_rfl) en56 hI ?_
 intro ac19 l17 rr18 w rc20 fn21 hrc22 ha23 hI
 obtain ⟨J24, hJ25⟩ : ∃ J : (List Int) → HP, J = fun s => match s with | x14 => (hpEx fun (A15 : Option Addr) => (hpEx fun (cp16 : Nat) => (star (ownS 3 (cI .i64) 1 A15 cp16 x14) (star (pt b1 (.cells ([.slice A15 x14.length cp16] : LV).toArray 32 (0, 0))) (pt l17 (rc20 .ready)))))) := ⟨_, rfl⟩
 have hY26 : ∀ (w : World) (Z' : Hp) (R : HP) (s : (List Int)) (y27 : Int) (y28 : ByteArray) (y29 : ByteArray) (y30 : Bool) (y31 : Int) (A32 : Option Addr) (cp33 : Nat) (y34 : (List ByteArray)) (r : (List Int)), RdS Z' cS 1 A32 cp33 y34 → Z12.le Z' → rule_Due.y1 s y27 y28 y29 y30 y31 y34 = some r → Inv w0 Z' w (star (J24 s) R) → YAt prog l17 [.agg ([iv y27, .string y28, .string y29, .bool y30, iv y31, .slice A32 y34.length cp33] : LV).toArray] w (fun e w' => e = .returned (.bool true) ∧ Inv w0 Z' w' (star (J24 r) R)) := by
  rintro w Z2 R x14 y27 y28 y29 y30 y31 A32 cp33 y34 r_ hl35 hle2 h1 hI
  rw [hJ25] at hI ⊢
  dsimp only at hI ⊢
  unfold rule_Due.y1 at h1
  try dsimp only at h1
  obtain ⟨A15, hI⟩ := hI.exo
  obtain ⟨cp16, hI⟩ := hI.exo
  have hI := hI.mono (ung3 _ _ _ _)
  have hI := hI.mono (pick3 _ _ _ _)
  refine YAt.roundN hrc22 hI rfl ha23 (by kernel_rfl) ?_
  refine CodT.keep [5, 10] (S' := [(5, pb b1), (10, .agg ([iv y27, .string y28, .string y29, .bool y30, iv y31, .slice A32 y34.length cp33] : LV).toArray)]) (by kernel_rfl) ?_
  refine cR [0, 1] (by kernel_rfl) ?_
  refine oC (Does.allocL (d := 6) (T := 27) ((([iv 0, .string (⟨#[]⟩ : ByteArray), .string (⟨#[]⟩ : ByteArray), .bool false, iv 0, .slice none 0 0] : LV))) (by kernel_rfl) ty27 hI (by kernel_rfl) ?_)
  intro b36 w hI
  refine oC (dS (T := 27) (b := b36) (o := 0) (v := .agg ([iv y27, .string y28, .string y29, .bool y30, iv y31, .slice A32 y34.length cp33] : LV).toArray) (l := (([iv 0, .string (⟨#[]⟩ : ByteArray), .string (⟨#[]⟩ : ByteArray), .bool false, iv 0, .slice none 0 0] : LV))) (vs := ([iv y27, .string y28, .string y29, .bool y30, iv y31, .slice A32 y34.length cp33] : LV)) (L' := ([iv y27, .string y28, .string y29, .bool y30, iv y31, .slice A32 y34.length cp33] : LV)) (by kernel_rfl) ty27 hI (by kernel_rfl) (by kernel_rfl) (by kernel_rfl) (by kernel_rfl) (by kernel_rfl) ?_)
  intro w hI
  refine oD ?_
  have hI := hI.mono (pick2 _ _ _)
  refine Qn.thenJ fun a ha => ⟨_, _, hI, fun w hI => ?_⟩
  refine CodT.of ?_ ha
  refine CodT.block ?_
  refine cR [0, 1, 2, 3, 4, 5] (by kernel_rfl) ?_
  refine oC (Does.yi (Yl.load (d := 11) (T := 32) (v := .slice A15 x14.length cp16) (by kernel_rfl) (ldB ty32 (l := ([.slice A15 x14.length cp16] : LV)) (o := 0) (v := .slice A15 x14.length cp16) (pick4 _ _ _ _ _) (by kernel_rfl))) hI ?_)
  refine oP (r := [2, 3, 4, 5]) [1] (S' := [(5, pb b1), (11, .slice A15 x14.length cp16), (12, pb b36)]) (by kernel_rfl) ?_
  refine oC (Does.yi (Yl.load (d := 13) (T := 3) (v := iv y27) (by kernel_rfl) (ldB ty3 (l := ([iv y27, .string y28, .string y29, .bool y30, iv y31, .slice A32 y34.length cp33] : LV)) (o := 0) (v := iv y27) (pick2 _ _ _) (by kernel_rfl))) hI ?_)
  refine oC (Does.buildSlice (en := (cI .i64)) (d := 14) (n := 1) (T := 32) (ps := [(0, iv y27)]) ([y27] : List Int) (by kernel_rfl) Go.Proofs.Tryd.underlying32 ty3 (by kernel_rfl) (by kernel_rfl) (by kernel_rfl) (by kernel_rfl) (len_all (fun _ => rfl)) hI ?_)
  intro b37 w hI
  obtain ⟨hg38, h1⟩ := guardS h1
  have hI := hI.mono (pick4 _ _ _ _ _)
  refine oC (Does.append (d := 15) (t := 32) (tx := 32) (ty := 32) (ys := x14) (zs := ([y27] : List Int)) (x := .slice (some ⟨b37, 0, none⟩) (([y27] : List Int).length) 1) (by kernel_rfl) Go.Proofs.Tryd.underlying32 ty3 (by kernel_rfl) hI (src_own Go.Proofs.Tryd.underlying32 (hI.mono (pick2 _ _ _)) (one_flat _ (fun _ => rfl))) (ownS_facts (hI.mono (pick2 _ _ _))).2.2 (by unfold LIM at hg38; omega) hg38 ?_)
  intro A39 cp40 w hI
  have hI := hI.mono (pick5 _ _ _ _ _ _)
  refine oC (dS (T := 32) (b := b1) (o := 0) (v := .slice A39 ((x14 ++ ([y27] : List Int)).length) cp40) (l := ([.slice A15 x14.length cp16] : LV)) (vs := ([.slice A39 ((x14 ++ ([y27] : List Int)).length) cp40] : LV)) (L' := ([.slice A39 ((x14 ++ ([y27] : List Int)).length) cp40] : LV)) (by kernel_rfl) ty32 hI (by kernel_rfl) (by kernel_rfl) (by kernel_rfl) (by kernel_rfl) (by kernel_rfl) ?_)
  intro w hI
  refine oD ?_
  refine Qn.block_normal ?_
  have hI := hI.mono (pick3 _ _ _ _)
  have hI := hI.drop
  have hI := hI.mono (pick4 _ _ _ _ _)
  have hI := hI.drop
  have hI := hI.mono (pick3 _ _ _ _)
  have hI := hI.mono (pick2 _ _ _)
  have hI := hI.mono (pick3 _ _ _ _)
  have e := someS h1
  subst e
  have hI := hI.mono (pick3 _ _ _ _)
  refine Qn.roundN hrc22 hI ?_
  intro w hI
  refine ⟨rfl, ?_⟩
  have hI := hI.mono (pick3 _ _ _ _)
  have hI := hI.mono (pick3 _ _ _ _)
  have hI := hI.mono (grp3 _ _ _ _)
  exact (Inv.exc A39 (Inv.exc cp40 hI))
 have hI := hI.mono (pick4 _ _ _ _ _)
 have hI := hI.mono (pick4 _ _ _ _ _)
 have hI := hI.mono (grp3 _ _ _ _)
 replace hI : Inv w0 Z12 w (star (J24 ([] : List Int)) (star (pt rr18 (.deferred (some []))) A)) := by rw [hJ25]; exact (Inv.exc none (Inv.exc 0 hI))
 obtain ⟨y41, hc42, h0⟩ := bindS h0
 try dsimp only at h0
 refine Calls.mono (c56 w0 w _ _ (hT.mono hle13) l17 J24 rule_Due.y1 ([] : List Int) hY26 b3 A5 cp6 y4 hr7 hz8 b9 y10 hz11 hI _ hc42) ?_
 rintro e w ⟨rfl, hI⟩
 rw [hJ25] at hI
 dsimp only at hI
 try dsimp only at h0
 obtain ⟨A44, hI⟩ := hI.exo
 obtain ⟨cp45, hI⟩ := hI.exo
 have hI := hI.mono (ung3 _ _ _ _)
 have hI := hI.mono (pick3 _ _ _ _)
 refine ⟨_, _, _, rfl, hI, ?_⟩
 intro w hI
 refine Qn.block_normal ?_
 refine qT ?_
 refine cQ ?_
 refine cR [0, 1] (by kernel_rfl) ?_
 refine oC (Does.yi (Yl.load (d := 16) (T := 32) (v := .slice A44 y41.length cp45) (by kernel_rfl) (ldB ty32 (l := ([.slice A44 y41.length cp45] : LV)) (o := 0) (v := .slice A44 y41.length cp45) (pick2 _ _ _) (by kernel_rfl))) hI ?_)
 refine oP (r := []) [1] (S' := [(4, .slice A44 y41.length cp45)]) (by kernel_rfl) ?_
 refine oD ?_
 refine qT ?_
 refine CodT.ret ?_
 have hI := hI.mono (pick3 _ _ _ _)
 refine post_mark hI ?_
 intro w hI
 have hI := hI.mono (pick2 _ _ _)
 have hI := hI.drop
 have e := someS h0
 subst e
 refine qK [4] (S' := [(4, .slice A44 y41.length cp45)]) (by kernel_rfl) ?_
 exact post_retM (v := .slice A44 y41.length cp45) (fun a ha => RunRes.run (vs := [.slice A44 y41.length cp45]) (.tmp (t := 4) (by kernel_rfl) .nil) ha (by kernel_rfl)) ⟨A44, cp45, rfl, hI.weaken hle13⟩
/-- cenotaph/cenotaphlaw07.Few -/
theorem c11 (w0 w : World) (Z : Hp) (A : HP) (hI : Inv w0 Z w A) (hT : Tabs Z) (uf : Int) (ug : ByteArray) (ud : ByteArray) (uh : Bool) (ui : Int) (ua : Option Addr) (ubh : Nat) (ue : (List ByteArray)) (uca : RdS Z cS 1 ua ubh ue) (r : Bool) (h0 : law07_Few uf ug ud uh ui ue = some r) :
  Calls prog 11 #[.agg ([iv uf, .string ug, .string ud, .bool uh, iv ui, .slice ua ue.length ubh] : LV).toArray] w (fun e w' => e = .returned (.bool r) ∧ Inv w0 Z w' A) := by
 have e4 := calls_intro (R := (fun e w' => e = .returned (.bool r) ∧ Inv w0 Z w' A)) (w := w) (args := [.agg ([iv uf, .string ug, .string ud, .bool uh, iv ui, .slice ua ue.length ubh] : LV).toArray]) (fn := Go.Proofs.Tryd.f11) 38 Go.Proofs.Tryd.func11 (by rfl) Go.Proofs.Tryd.ntmps11 (by kernel_rfl)
 refine e4 ?_
 clear e4
 unfold law07_Few at h0
 refine cQ ?_
 refine cR [0, 1] (by kernel_rfl) ?_
 refine oC (Does.boxL (d := 1) (T := 27) (v := .agg ([iv uf, .string ug, .string ud, .bool uh, iv ui, .slice ua ue.length ubh] : LV).toArray) ([iv uf, .string ug, .string ud, .bool uh, iv ui, .slice ua ue.length ubh] : LV) (by kernel_rfl) hI (by kernel_rfl) ?_)
 intro b1 w hI
 refine oP (r := []) [1] (S' := [(1, pb b1)]) (by kernel_rfl) ?_
 refine oD ?_
 refine qT ?_
 refine cQ ?_
 refine cQ ?_
 refine cR [0] (by kernel_rfl) ?_
 refine oP (r := []) [0] (S' := [(1, pb b1), (3, iv 0)]) (by kernel_rfl) ?_
 refine oD ?_
 refine qT ?_
 obtain ⟨r1, h1, h0⟩ := bindS h0
 refine CodT.meet1 (fun a w => .inr () = r1 ∧ Fr 38 [(1, pb b1)] a ∧ Inv w0 Z w (star (pt b1 (.cells ([iv uf, .string ug, .string ud, .bool uh, iv ui, .slice ua ue.length ubh] : LV).toArray 27 (0, 0))) A)) ?_ ?_
 ·
  refine CodT.block ?_
  refine (fun a ha => wp_loopN (fun k a w => ∃ (x2 : Int), law07_Few.l0 ue k x2 = some r1 ∧ Fr 38 [(1, pb b1), (3, iv x2)] a ∧ Inv w0 Z w (star (pt b1 (.cells ([iv uf, .string ug, .string ud, .bool uh, iv ui, .slice ua ue.length ubh] : LV).toArray 27 (0, 0))) A)) ?_ FU a w ⟨0, h1, ha.keep [1, 3] (by kernel_rfl), hI⟩)
  clear h1 hI
  rintro k a w ⟨x2, h1, ha, hI⟩
  rcases k with _ | k
  ·
   cases h1
  simp only [law07_Few.l0] at h1
  refine CodT.of ?_ ha
  refine cQ ?_
  obtain ⟨r2, h2, h1⟩ := bindS h1
  refine CodT.meet (fun a w => ∃ (x3 : Bool), x3 = r2 ∧ Fr 38 [(1, pb b1), (3, iv x2), (12, .bool x3)] a ∧ Inv w0 Z w (star (pt b1 (.cells ([iv uf, .string ug, .string ud, .bool uh, iv ui, .slice ua ue.length ubh] : LV).toArray 27 (0, 0))) A)) ?_ ?_
  ·
   refine cR [0, 1, 2, 3, 4, 5, 6, 7, 8] (by kernel_rfl) ?_
   refine oP (r := [2, 3, 4, 5, 6, 7, 8]) [0, 1] (S' := [(1, pb b1), (3, iv x2), (4, iv x2), (5, .pointer (some ⟨b1, 5, none⟩))]) (by kernel_rfl) ?_
   refine oC (Does.yi (Yl.load (d := 6) (T := 25) (v := .slice ua ue.length ubh) (by kernel_rfl) (ldB ty25 (l := ([iv uf, .string ug, .string ud, .bool uh, iv ui, .slice ua ue.length ubh] : LV)) (o := 5) (v := .slice ua ue.length ubh) (ent_refl _) (by kernel_rfl))) hI ?_)
   refine oP (r := [6, 7, 8]) [3, 4, 5] (S' := [(1, pb b1), (3, iv x2), (9, .bool (decide (x2 < (ue.length : Int))))]) (by kernel_rfl) ?_
   by_cases hb4 : (decide (x2 < (ue.length : Int))) = true
   ·
    rw [if_pos hb4] at h2
    refine oK [1, 3, 9] (S' := [(1, pb b1), (3, iv x2), (9, .bool true)]) (by (try simp only [hb4]); kernel_rfl) ?_
    refine oP (r := []) [6, 7, 8] (S' := [(1, pb b1), (3, iv x2), (12, .bool (decide (x2 ≤ 200)))]) (by kernel_rfl) ?_
    refine oD ?_
    have e := someS h2
    subst e
    exact Qn.thenJ fun a ha => ⟨decide (x2 ≤ 200), rfl, ha.keep [1, 3, 12] (by kernel_rfl), hI⟩
   ·
    rw [if_neg hb4] at h2
    have hb4 : (decide (x2 < (ue.length : Int))) = false := by simpa using hb4
    refine oK [1, 3, 9] (S' := [(1, pb b1), (3, iv x2), (9, .bool false)]) (by (try simp only [hb4]); kernel_rfl) ?_
    refine oP (r := []) [6, 7, 8] (S' := [(1, pb b1), (3, iv x2), (12, .bool false)]) (by kernel_rfl) ?_
    refine oD ?_
    have e := someS h2
    subst e
    exact Qn.thenJ fun a ha => ⟨false, rfl, ha.keep [1, 3, 12] (by kernel_rfl), hI⟩
  ·
   rintro a w ⟨x3, rfl, ha, hI⟩
   try dsimp only at h1
   refine CodT.of ?_ ha
   by_cases hb5 : x3 = true
   ·
    rw [if_pos hb5] at h1
    refine CodT.yes' (b := x3) (by kernel_rfl) hb5 ?_
    refine CodT.skip ?_
    refine qT ?_
    refine cQ ?_
    refine CodT.block ?_
    refine cQ ?_
    refine cR [0, 1, 2, 3, 4, 5, 6] (by kernel_rfl) ?_
    refine oP (r := [1, 2, 3, 4, 5, 6]) [0] (S' := [(1, pb b1), (3, iv x2), (15, .pointer (some ⟨b1, 5, none⟩))]) (by kernel_rfl) ?_
    refine oC (Does.yi (Yl.load (d := 16) (T := 25) (v := .slice ua ue.length ubh) (by kernel_rfl) (ldB ty25 (l := ([iv uf, .string ug, .string ud, .bool uh, iv ui, .slice ua ue.length ubh] : LV)) (o := 5) (v := .slice ua ue.length ubh) (ent_refl _) (by kernel_rfl))) hI ?_)
    refine oP (r := [3, 4, 5, 6]) [2] (S' := [(1, pb b1), (3, iv x2), (16, .slice ua ue.length ubh), (17, iv x2)]) (by kernel_rfl) ?_
    obtain ⟨hg6, h1⟩ := guardS h1
    obtain ⟨g7, o11, hA8, hr9, hl10⟩ := RdS.get uca hg6.1 hg6.2
    refine oC (Does.yi (Yl.indexSlice (d := 18) (T := 25) (cc := ubh) (k := .i64) (j := x2) (g := g7) (o := o11) (by kernel_rfl) Go.Proofs.Tryd.underlying25 ty9 hA8 hg6.1 hg6.2) hI ?_)
    refine oC (Does.yi (Yl.load (d := 19) (T := 9) (v := .string (gt ue x2)) (by kernel_rfl) (ldR ty9 (v := .string (gt ue x2)) 0 (fun w hC => hr9 w0 w _ hC) (by kernel_rfl))) hI ?_)
    refine oP (r := []) [5, 6] (S' := [(1, pb b1), (3, iv x2), (21, .bool (decide (((gt ue x2).size : Int) > 200)))]) (by kernel_rfl) ?_
    refine oD ?_
    refine qT ?_
    by_cases hb12 : (decide (((gt ue x2).size : Int) > 200)) = true
    ·
     rw [if_pos hb12] at h1
     refine CodT.yes' (b := decide (((gt ue x2).size : Int) > 200)) (by kernel_rfl) hb12 ?_
     refine cQ ?_
     refine cR [0] (by kernel_rfl) ?_
     refine oP (r := []) [0] (S' := [(2, .bool false)]) (by kernel_rfl) ?_
     refine oD ?_
     refine qT ?_
     refine CodT.ret ?_
     refine Qn.block_ret ?_
     refine Qn.ret_then ?_
     refine Qn.ret_then ?_
     refine Qn.block_ret ?_
     refine Qn.ret_then ?_
     refine Qn.ret_then ?_
     have hI := hI.drop
     have e := someS h1
     subst e
     try dsimp only at h0
     have e := someS h0
     subst e
     refine qK [2] (S' := [(2, .bool false)]) (by kernel_rfl) ?_
     exact post_ret (v := .bool false) (fun a ha => RunRes.run (vs := [.bool false]) (.tmp (t := 2) (by kernel_rfl) .nil) ha (by kernel_rfl)) ⟨rfl, hI⟩
    ·
     rw [if_neg hb12] at h1
     refine CodT.no' (b := decide (((gt ue x2).size : Int) > 200)) (by kernel_rfl) (by simpa using hb12) ?_
     refine CodT.skip ?_
     refine Qn.block_normal ?_
     refine qT ?_
     refine cR [0, 1, 2] (by kernel_rfl) ?_
     refine oP (r := []) [0, 1, 2] (S' := [(1, pb b1), (3, iv (wi64 (x2 + 1)))]) (by kernel_rfl) ?_
     refine oD ?_
     exact Qn.thenJ fun a ha => ⟨k, Nat.lt_succ_self k, wi64 (x2 + 1), h1, ha.keep [1, 3] (by kernel_rfl), hI⟩
   ·
    rw [if_neg hb5] at h1
    refine CodT.no' (b := x3) (by kernel_rfl) (by simpa using hb5) ?_
    refine CodT.exit ?_
    refine Qn.exit_then ?_
    refine Qn.exit_then ?_
    refine Qn.block ?_
    have e := someS h1
    subst e
    exact Qn.thenJ fun a ha => ⟨rfl, ha.keep [1] (by kernel_rfl), hI⟩
 ·
  rintro a w ⟨rfl, ha, hI⟩
  try dsimp only at h0
  refine Qn.of ?_ ha
  refine qT ?_
  obtain ⟨r1, h1, h0⟩ := bindS h0
  refine CodT.meet (fun a w => ∃ (x13 : Bool), x13 = r1 ∧ Fr 38 [(2, .bool x13)] a ∧ Inv w0 Z w A) ?_ ?_
  ·
   refine cR [0, 1, 2, 3, 4, 5, 6, 7, 8, 9, 10, 11, 12, 13, 14, 15, 16] (by kernel_rfl) ?_
   refine oP (r := [1, 2, 3, 4, 5, 6, 7, 8, 9, 10, 11, 12, 13, 14, 15, 16]) [0] (S' := [(1, pb b1), (22, .pointer (some ⟨b1, 5, none⟩))]) (by kernel_rfl) ?_
   refine oC (Does.yi (Yl.load (d := 23) (T := 25) (v := .slice ua ue.length ubh) (by kernel_rfl) (ldB ty25 (l := ([iv uf, .string ug, .string ud, .bool uh, iv ui, .slice ua ue.length ubh] : LV)) (o := 5) (v := .slice ua ue.length ubh) (ent_refl _) (by kernel_rfl))) hI ?_)
   refine oP (r := [5, 6, 7, 8, 9, 10, 11, 12, 13, 14, 15, 16]) [2, 3, 4] (S' := [(1, pb b1), (26, .bool (decide ((ue.length : Int) ≤ 200)))]) (by kernel_rfl) ?_
   by_cases hb14 : (decide ((ue.length : Int) ≤ 200)) = true
   ·
    rw [if_pos hb14] at h1
    refine oK [1, 26] (S' := [(1, pb b1), (26, .bool true)]) (by (try simp only [hb14]); kernel_rfl) ?_
    refine oP (r := [6, 7, 8, 9, 10, 11, 12, 13, 14, 15, 16]) [5] (S' := [(1, pb b1), (26, .bool true), (27, .pointer (some ⟨b1, 2, none⟩))]) (by kernel_rfl) ?_
    refine oC (Does.yi (Yl.load (d := 28) (T := 9) (v := .string ud) (by kernel_rfl) (ldB ty9 (l := ([iv uf, .string ug, .string ud, .bool uh, iv ui, .slice ua ue.length ubh] : LV)) (o := 2) (v := .string ud) (ent_refl _) (by kernel_rfl))) hI ?_)
    refine oP (r := [11, 12, 13, 14, 15, 16]) [7, 8, 9, 10] (S' := [(1, pb b1), (32, .bool (decide ((ud.size : Int) ≤ 2000)))]) (by kernel_rfl) ?_
    by_cases hb15 : (decide ((ud.size : Int) ≤ 2000)) = true
    ·
     rw [if_pos hb15] at h1
     refine oK [1, 32] (S' := [(1, pb b1), (32, .bool true)]) (by (try simp only [hb15]); kernel_rfl) ?_
     refine oP (r := [12, 13, 14, 15, 16]) [11] (S' := [(32, .bool true), (33, .pointer (some ⟨b1, 1, none⟩))]) (by kernel_rfl) ?_
     refine oC (Does.yi (Yl.load (d := 34) (T := 9) (v := .string ug) (by kernel_rfl) (ldB ty9 (l := ([iv uf, .string ug, .string ud, .bool uh, iv ui, .slice ua ue.length ubh] : LV)) (o := 1) (v := .string ug) (ent_refl _) (by kernel_rfl))) hI ?_)
     refine oP (r := []) [13, 14, 15, 16] (S' := [(2, .bool (decide ((ug.size : Int) ≤ 200)))]) (by kernel_rfl) ?_
     refine oD ?_
     have hI := hI.drop
     have e := someS h1
     subst e
     exact Qn.thenJ fun a ha => ⟨decide ((ug.size : Int) ≤ 200), rfl, ha.keep [2] (by kernel_rfl), hI⟩
    ·
     rw [if_neg hb15] at h1
     have hb15 : (decide ((ud.size : Int) ≤ 2000)) = false := by simpa using hb15
     refine oK [1, 32] (S' := [(1, pb b1), (32, .bool false)]) (by (try simp only [hb15]); kernel_rfl) ?_
     refine oP (r := []) [11, 12, 13, 14, 15, 16] (S' := [(2, .bool false)]) (by kernel_rfl) ?_
     refine oD ?_
     have hI := hI.drop
     have e := someS h1
     subst e
     exact Qn.thenJ fun a ha => ⟨false, rfl, ha.keep [2] (by kernel_rfl), hI⟩
   ·
    rw [if_neg hb14] at h1
    have hb14 : (decide ((ue.length : Int) ≤ 200)) = false := by simpa using hb14
    refine oK [1, 26] (S' := [(1, pb b1), (26, .bool false)]) (by (try simp only [hb14]); kernel_rfl) ?_
    refine oP (r := []) [5, 6, 7, 8, 9, 10, 11, 12, 13, 14, 15, 16] (S' := [(2, .bool false)]) (by kernel_rfl) ?_
    refine oD ?_
    have hI := hI.drop
    have e := someS h1
    subst e
    exact Qn.thenJ fun a ha => ⟨false, rfl, ha.keep [2] (by kernel_rfl), hI⟩
  ·
   rintro a w ⟨x13, rfl, ha, hI⟩
   try dsimp only at h0
   refine CodT.of ?_ ha
   refine CodT.ret ?_
   have e := someS h0
   subst e
   refine qK [2] (S' := [(2, .bool x13)]) (by kernel_rfl) ?_
   exact post_ret (v := .bool x13) (fun a ha => RunRes.run (vs := [.bool x13]) (.tmp (t := 2) (by kernel_rfl) .nil) ha (by kernel_rfl)) ⟨rfl, hI⟩
/-- cenotaph/cenotaphref07.May -/
theorem c12 (w0 w : World) (Z : Hp) (A : HP) (hI : Inv w0 Z w A) (hT : Tabs Z) (uf : Int) (ug : ByteArray) (ud : ByteArray) (uh : Bool) (ui : Int) (ua : Option Addr) (ubh : Nat) (ue : (List ByteArray)) (uca : RdS Z cS 1 ua ubh ue) (a1 : Int) (r : Int) (h0 : ref07_May uf ug ud uh ui ue a1 = some r) :
  Calls prog 12 #[.agg ([iv uf, .string ug, .string ud, .bool uh, iv ui, .slice ua ue.length ubh] : LV).toArray, iv a1] w (fun e w' => e = .returned (iv r) ∧ Inv w0 Z w' A) := by
 have e4 := calls_intro (R := (fun e w' => e = .returned (iv r) ∧ Inv w0 Z w' A)) (w := w) (args := [.agg ([iv uf, .string ug, .string ud, .bool uh, iv ui, .slice ua ue.length ubh] : LV).toArray, iv a1]) (fn := Go.Proofs.Tryd.f12) 16 Go.Proofs.Tryd.func12 (by rfl) Go.Proofs.Tryd.ntmps12 (by kernel_rfl)
 refine e4 ?_
 clear e4
 unfold ref07_May at h0
 refine cQ ?_
 refine cR [0, 1] (by kernel_rfl) ?_
 refine oC (Does.boxL (d := 2) (T := 27) (v := .agg ([iv uf, .string ug, .string ud, .bool uh, iv ui, .slice ua ue.length ubh] : LV).toArray) ([iv uf, .string ug, .string ud, .bool uh, iv ui, .slice ua ue.length ubh] : LV) (by kernel_rfl) hI (by kernel_rfl) ?_)
 intro b1 w hI
 refine oP (r := []) [1] (S' := [(1, iv a1), (2, pb b1)]) (by kernel_rfl) ?_
 refine oD ?_
 refine qT ?_
 refine cQ ?_
 refine cQ ?_
 refine cR [0, 1, 2] (by kernel_rfl) ?_
 refine oP (r := [1, 2]) [0] (S' := [(1, iv a1), (2, pb b1), (5, .pointer (some ⟨b1, 3, none⟩))]) (by kernel_rfl) ?_
 refine oC (Does.yi (Yl.load (d := 6) (T := 4) (v := .bool uh) (by kernel_rfl) (ldB ty4 (l := ([iv uf, .string ug, .string ud, .bool uh, iv ui, .slice ua ue.length ubh] : LV)) (o := 3) (v := .bool uh) (ent_refl _) (by kernel_rfl))) hI ?_)
 refine oP (r := []) [2] (S' := [(1, iv a1), (2, pb b1), (7, .bool (!uh))]) (by kernel_rfl) ?_
 refine oD ?_
 refine qT ?_
 by_cases hb2 : (!uh) = true
 ·
  rw [if_pos hb2] at h0
  refine CodT.yes' (b := !uh) (by kernel_rfl) hb2 ?_
  refine cQ ?_
  refine cR [0] (by kernel_rfl) ?_
  refine oP (r := []) [0] (S' := [(4, iv 6)]) (by kernel_rfl) ?_
  refine oD ?_
  refine qT ?_
  refine CodT.ret ?_
  refine Qn.ret_then ?_
  have hI := hI.drop
  have e := someS h0
  subst e
  refine qK [4] (S' := [(4, iv 6)]) (by kernel_rfl) ?_
  exact post_ret (v := iv 6) (fun a ha => RunRes.run (vs := [iv 6]) (.tmp (t := 4) (by kernel_rfl) .nil) ha (by kernel_rfl)) ⟨rfl, hI⟩
 ·
  rw [if_neg hb2] at h0
  refine CodT.no' (b := !uh) (by kernel_rfl) (by simpa using hb2) ?_
  refine CodT.skip ?_
  refine qT ?_
  refine cQ ?_
  refine cQ ?_
  refine cR [0, 1, 2, 3] (by kernel_rfl) ?_
  refine oP (r := [2, 3]) [0, 1] (S' := [(2, pb b1), (8, iv a1), (9, .pointer (some ⟨b1, 4, none⟩))]) (by kernel_rfl) ?_
  refine oC (Does.yi (Yl.load (d := 10) (T := 3) (v := iv ui) (by kernel_rfl) (ldB ty3 (l := ([iv uf, .string ug, .string ud, .bool uh, iv ui, .slice ua ue.length ubh] : LV)) (o := 4) (v := iv ui) (ent_refl _) (by kernel_rfl))) hI ?_)
  refine oP (r := []) [3] (S' := [(2, pb b1), (11, .bool (decide (a1 < ui)))]) (by kernel_rfl) ?_
  refine oD ?_
  refine qT ?_
  by_cases hb3 : (decide (a1 < ui)) = true
  ·
   rw [if_pos hb3] at h0
   refine CodT.yes' (b := decide (a1 < ui)) (by kernel_rfl) hb3 ?_
   refine cQ ?_
   refine cR [0] (by kernel_rfl) ?_
   refine oP (r := []) [0] (S' := [(4, iv 8)]) (by kernel_rfl) ?_
   refine oD ?_
   refine qT ?_
   refine CodT.ret ?_
   refine Qn.ret_then ?_
   have hI := hI.drop
   have e := someS h0
   subst e
   refine qK [4] (S' := [(4, iv 8)]) (by kernel_rfl) ?_
   exact post_ret (v := iv 8) (fun a ha => RunRes.run (vs := [iv 8]) (.tmp (t := 4) (by kernel_rfl) .nil) ha (by kernel_rfl)) ⟨rfl, hI⟩
  ·
   rw [if_neg hb3] at h0
   refine CodT.no' (b := decide (a1 < ui)) (by kernel_rfl) (by simpa using hb3) ?_
   refine CodT.skip ?_
   refine qT ?_
   refine cQ ?_
   refine cQ ?_
   refine cR [0, 1, 2, 3] (by kernel_rfl) ?_
   refine oP (r := [1, 2, 3]) [0] (S' := [(12, .pointer (some ⟨b1, 5, none⟩))]) (by kernel_rfl) ?_
   refine oC (Does.yi (Yl.load (d := 13) (T := 25) (v := .slice ua ue.length ubh) (by kernel_rfl) (ldB ty25 (l := ([iv uf, .string ug, .string ud, .bool uh, iv ui, .slice ua ue.length ubh] : LV)) (o := 5) (v := .slice ua ue.length ubh) (ent_refl _) (by kernel_rfl))) hI ?_)
   refine oP (r := []) [2, 3] (S' := [(15, .bool (decide ((ue.length : Int) > 0)))]) (by kernel_rfl) ?_
   refine oD ?_
   refine qT ?_
   by_cases hb4 : (decide ((ue.length : Int) > 0)) = true
   ·
    rw [if_pos hb4] at h0
    refine CodT.yes' (b := decide ((ue.length : Int) > 0)) (by kernel_rfl) hb4 ?_
    refine cQ ?_
    refine cR [0] (by kernel_rfl) ?_
    refine oP (r := []) [0] (S' := [(4, iv 9)]) (by kernel_rfl) ?_
    refine oD ?_
    refine qT ?_
    refine CodT.ret ?_
    refine Qn.ret_then ?_
    have hI := hI.drop
    have e := someS h0
    subst e
    refine qK [4] (S' := [(4, iv 9)]) (by kernel_rfl) ?_
    exact post_ret (v := iv 9) (fun a ha => RunRes.run (vs := [iv 9]) (.tmp (t := 4) (by kernel_rfl) .nil) ha (by kernel_rfl)) ⟨rfl, hI⟩
   ·
    rw [if_neg hb4] at h0
    refine CodT.no' (b := decide ((ue.length : Int) > 0)) (by kernel_rfl) (by simpa using hb4) ?_
    refine CodT.skip ?_
    refine qT ?_
    refine cQ ?_
    refine cR [0] (by kernel_rfl) ?_
    refine oP (r := []) [0] (S' := [(4, iv 0)]) (by kernel_rfl) ?_
    refine oD ?_
    refine qT ?_
    refine CodT.ret ?_
    have hI := hI.drop
    have e := someS h0
    subst e
    refine qK [4] (S' := [(4, iv 0)]) (by kernel_rfl) ?_
    exact post_ret (v := iv 0) (fun a ha => RunRes.run (vs := [iv 0]) (.tmp (t := 4) (by kernel_rfl) .nil) ha (by kernel_rfl)) ⟨rfl, hI⟩
/-- cenotaph/cenotaphref05.Row -/
theorem c15 (w0 w : World) (Z : Hp) (A : HP) (hI : Inv w0 Z w A) (hT : Tabs Z) (A_a0 : Option Addr) (c_a0 : Nat) (a0 : (List Int)) (hr_a0 : RdS Z (cI .i64) 1 A_a0 c_a0 a0) (A_a1 : Option Addr) (c_a1 : Nat) (a1 : (List Int)) (hr_a1 : RdS Z (cI .i64) 1 A_a1 c_a1 a1) (r : Bool) (h0 : ref05_Row a0 a1 = some r) :
  Calls prog 15 #[.slice A_a0 a0.length c_a0, .slice A_a1 a1.length c_a1] w (fun e w' => e = .returned (.bool r) ∧ Inv w0 Z w' A) := by
 have e4 := calls_intro (R := (fun e w' => e = .returned (.bool r) ∧ Inv w0 Z w' A)) (w := w) (args := [.slice A_a0 a0.length c_a0, .slice A_a1 a1.length c_a1]) (fn := Go.Proofs.Tryd.f15) 26 Go.Proofs.Tryd.func15 (by rfl) Go.Proofs.Tryd.ntmps15 (by kernel_rfl)
 refine e4 ?_
 clear e4
 unfold ref05_Row at h0
 refine cQ ?_
 refine cR [0] (by kernel_rfl) ?_
 refine oP (r := []) [0] (S' := [(0, .slice A_a0 a0.length c_a0), (1, .slice A_a1 a1.length c_a1)]) (by kernel_rfl) ?_
 refine oD ?_
 refine qT ?_
 refine cQ ?_
 refine cQ ?_
 refine cR [0, 1, 2, 3, 4] (by kernel_rfl) ?_
 refine oP (r := []) [0, 1, 2, 3, 4] (S' := [(0, .slice A_a0 a0.length c_a0), (1, .slice A_a1 a1.length c_a1), (10, .bool ((a0.length : Int) != (a1.length : Int)))]) (by kernel_rfl) ?_
 refine oD ?_
 refine qT ?_
 by_cases hb1 : ((a0.length : Int) != (a1.length : Int)) = true
 ·
  rw [if_pos hb1] at h0
  refine CodT.yes' (b := (a0.length : Int) != (a1.length : Int)) (by kernel_rfl) hb1 ?_
  refine cQ ?_
  refine cR [0] (by kernel_rfl) ?_
  refine oP (r := []) [0] (S' := [(4, .bool false)]) (by kernel_rfl) ?_
  refine oD ?_
  refine qT ?_
  refine CodT.ret ?_
  refine Qn.ret_then ?_
  have e := someS h0
  subst e
  refine qK [4] (S' := [(4, .bool false)]) (by kernel_rfl) ?_
  exact post_ret (v := .bool false) (fun a ha => RunRes.run (vs := [.bool false]) (.tmp (t := 4) (by kernel_rfl) .nil) ha (by kernel_rfl)) ⟨rfl, hI⟩
 ·
  rw [if_neg hb1] at h0
  refine CodT.no' (b := (a0.length : Int) != (a1.length : Int)) (by kernel_rfl) (by simpa using hb1) ?_
  refine CodT.skip ?_
  refine qT ?_
  refine cQ ?_
  refine cQ ?_
  refine cR [0] (by kernel_rfl) ?_
  refine oP (r := []) [0] (S' := [(0, .slice A_a0 a0.length c_a0), (1, .slice A_a1 a1.length c_a1), (5, iv 0)]) (by kernel_rfl) ?_
  refine oD ?_
  refine qT ?_
  obtain ⟨r1, h1, h0⟩ := bindS h0
  refine CodT.meet1 (fun a w => .inr () = r1 ∧ Fr 26 [] a ∧ Inv w0 Z w A) ?_ ?_
  ·
   refine CodT.block ?_
   refine (fun a ha => wp_loopN (fun k a w => ∃ (x2 : Int), ref05_Row.l0 a0 a1 k x2 = some r1 ∧ Fr 26 [(0, .slice A_a0 a0.length c_a0), (1, .slice A_a1 a1.length c_a1), (5, iv x2)] a ∧ Inv w0 Z w A) ?_ FU a w ⟨0, h1, ha.keep [0, 1, 5] (by kernel_rfl), hI⟩)
   clear h1 hI
   rintro k a w ⟨x2, h1, ha, hI⟩
   rcases k with _ | k
   ·
    cases h1
   simp only [ref05_Row.l0] at h1
   refine CodT.of ?_ ha
   refine cQ ?_
   refine cQ ?_
   refine cR [0, 1, 2, 3] (by kernel_rfl) ?_
   refine oP (r := []) [0, 1, 2, 3] (S' := [(0, .slice A_a0 a0.length c_a0), (1, .slice A_a1 a1.length c_a1), (5, iv x2), (14, .bool (decide (x2 < (a0.length : Int))))]) (by kernel_rfl) ?_
   refine oD ?_
   refine qT ?_
   by_cases hb3 : (decide (x2 < (a0.length : Int))) = true
   ·
    rw [if_pos hb3] at h1
    refine CodT.yes' (b := decide (x2 < (a0.length : Int))) (by kernel_rfl) hb3 ?_
    refine CodT.skip ?_
    refine qT ?_
    refine cQ ?_
    refine CodT.block ?_
    refine cQ ?_
    refine CodT.drawI (n := 9) [] (by kernel_rfl) (by kernel_rfl) hI ?_
    intro w hI
    refine GmT.p' 0 17 (.slice A_a0 a0.length c_a0) (by kernel_rfl) (by kernel_rfl) ?_
    refine GmT.p' 1 18 (iv x2) (by kernel_rfl) (by kernel_rfl) ?_
    refine GmT.p' 4 21 (.slice A_a1 a1.length c_a1) (by kernel_rfl) (by kernel_rfl) ?_
    refine GmT.p' 5 22 (iv x2) (by kernel_rfl) (by kernel_rfl) ?_
    obtain ⟨hg4, h1⟩ := guardS h1
    obtain ⟨g5, o9, hA6, hr7, hl8⟩ := RdS.get hr_a0 hg4.1 hg4.2
    refine GmT.r (i := 2) 2 (by kernel_rfl) (by kernel_rfl) (Yl.indexSlice (d := 19) (T := 32) (cc := c_a0) (k := .i64) (j := x2) (g := g5) (o := o9) (by kernel_rfl) Go.Proofs.Tryd.underlying32 ty3 hA6 hg4.1 hg4.2) hI ?_
    refine GmT.r (i := 3) 2 (by kernel_rfl) (by kernel_rfl) (Yl.load (d := 20) (T := 3) (v := iv (gt a0 x2)) (by kernel_rfl) (ldR ty3 (v := iv (gt a0 x2)) 0 (fun w hC => hr7 w0 w _ hC) (by kernel_rfl))) hI ?_
    obtain ⟨hg10, h1⟩ := guardS h1
    obtain ⟨g11, o15, hA12, hr13, hl14⟩ := RdS.get hr_a1 hg10.1 hg10.2
    refine GmT.r (i := 6) 2 (by kernel_rfl) (by kernel_rfl) (Yl.indexSlice (d := 23) (T := 32) (cc := c_a1) (k := .i64) (j := x2) (g := g11) (o := o15) (by kernel_rfl) Go.Proofs.Tryd.underlying32 ty3 hA12 hg10.1 hg10.2) hI ?_
    refine GmT.r (i := 7) 2 (by kernel_rfl) (by kernel_rfl) (Yl.load (d := 24) (T := 3) (v := iv (gt a1 x2)) (by kernel_rfl) (ldR ty3 (v := iv (gt a1 x2)) 0 (fun w hC => hr13 w0 w _ hC) (by kernel_rfl))) hI ?_
    refine GmT.p' 8 25 (.bool ((gt a0 x2) != (gt a1 x2))) (by kernel_rfl) (by kernel_rfl) ?_
    refine GmT.done (by kernel_rfl) ?_
    refine qT ?_
    by_cases hb16 : ((gt a0 x2) != (gt a1 x2)) = true
    ·
     rw [if_pos hb16] at h1
     refine CodT.yes' (b := (gt a0 x2) != (gt a1 x2)) (by kernel_rfl) hb16 ?_
     refine cQ ?_
     refine cR [0] (by kernel_rfl) ?_
     refine oP (r := []) [0] (S' := [(4, .bool false)]) (by kernel_rfl) ?_
     refine oD ?_
     refine qT ?_
     refine CodT.ret ?_
     refine Qn.block_ret ?_
     refine Qn.ret_then ?_
     refine Qn.ret_then ?_
     refine Qn.block_ret ?_
     refine Qn.ret_then ?_
     refine Qn.ret_then ?_
     have e := someS h1
     subst e
     try dsimp only at h0
     have e := someS h0
     subst e
     refine qK [4] (S' := [(4, .bool false)]) (by kernel_rfl) ?_
     exact post_ret (v := .bool false) (fun a ha => RunRes.run (vs := [.bool false]) (.tmp (t := 4) (by kernel_rfl) .nil) ha (by kernel_rfl)) ⟨rfl, hI⟩
    ·
     rw [if_neg hb16] at h1
     refine CodT.no' (b := (gt a0 x2) != (gt a1 x2)) (by kernel_rfl) (by simpa using hb16) ?_
     refine CodT.skip ?_
     refine Qn.block_normal ?_
     refine qT ?_
     refine cR [0, 1, 2] (by kernel_rfl) ?_
     refine oP (r := []) [0, 1, 2] (S' := [(0, .slice A_a0 a0.length c_a0), (1, .slice A_a1 a1.length c_a1), (5, iv (wi64 (x2 + 1)))]) (by kernel_rfl) ?_
     refine oD ?_
     exact Qn.thenJ fun a ha => ⟨k, Nat.lt_succ_self k, wi64 (x2 + 1), h1, ha.keep [0, 1, 5] (by kernel_rfl), hI⟩
   ·
    rw [if_neg hb3] at h1
    refine CodT.no' (b := decide (x2 < (a0.length : Int))) (by kernel_rfl) (by simpa using hb3) ?_
    refine CodT.exit ?_
    refine Qn.exit_then ?_
    refine Qn.exit_then ?_
    refine Qn.block ?_
    have e := someS h1
    subst e
    exact Qn.thenJ fun a ha => ⟨rfl, ha.keep [] (by kernel_rfl), hI⟩
  ·
   rintro a w ⟨rfl, ha, hI⟩
   try dsimp only at h0
   refine Qn.of ?_ ha
   refine qT ?_
   refine cQ ?_
   refine cR [0] (by kernel_rfl) ?_
   refine oP (r := []) [0] (S' := [(4, .bool true)]) (by kernel_rfl) ?_
   refine oD ?_
   refine qT ?_
   refine CodT.ret ?_
   have e := someS h0
   subst e
   refine qK [4] (S' := [(4, .bool true)]) (by kernel_rfl) ?_
   exact post_ret (v := .bool true) (fun a ha => RunRes.run (vs := [.bool true]) (.tmp (t := 4) (by kernel_rfl) .nil) ha (by kernel_rfl)) ⟨rfl, hI⟩
/-- cenotaph/cenotaphref07.Texts -/
theorem c42 (w0 w : World) (Z : Hp) (A : HP) (hI : Inv w0 Z w A) (hT : Tabs Z) (A_a0 : Option Addr) (c_a0 : Nat) (a0 : (List ByteArray)) (hr_a0 : RdS Z cS 1 A_a0 c_a0 a0) (A_a1 : Option Addr) (c_a1 : Nat) (a1 : (List ByteArray)) (hr_a1 : RdS Z cS 1 A_a1 c_a1 a1) (r : Bool) (h0 : ref07_Texts a0 a1 = some r) :
  Calls prog 42 #[.slice A_a0 a0.length c_a0, .slice A_a1 a1.length c_a1] w (fun e w' => e = .returned (.bool r) ∧ Inv w0 Z w' A) := by
 have e4 := calls_intro (R := (fun e w' => e = .returned (.bool r) ∧ Inv w0 Z w' A)) (w := w) (args := [.slice A_a0 a0.length c_a0, .slice A_a1 a1.length c_a1]) (fn := Go.Proofs.Tryd.f42) 26 Go.Proofs.Tryd.func42 (by rfl) Go.Proofs.Tryd.ntmps42 (by kernel_rfl)
 refine e4 ?_
 clear e4
 unfold ref07_Texts at h0
 refine cQ ?_
 refine cR [0] (by kernel_rfl) ?_
 refine oP (r := []) [0] (S' := [(0, .slice A_a0 a0.length c_a0), (1, .slice A_a1 a1.length c_a1)]) (by kernel_rfl) ?_
 refine oD ?_
 refine qT ?_
 refine cQ ?_
 refine cQ ?_
 refine cR [0, 1, 2, 3, 4] (by kernel_rfl) ?_
 refine oP (r := []) [0, 1, 2, 3, 4] (S' := [(0, .slice A_a0 a0.length c_a0), (1, .slice A_a1 a1.length c_a1), (10, .bool ((a0.length : Int) != (a1.length : Int)))]) (by kernel_rfl) ?_
 refine oD ?_
 refine qT ?_
 by_cases hb1 : ((a0.length : Int) != (a1.length : Int)) = true
 ·
  rw [if_pos hb1] at h0
  refine CodT.yes' (b := (a0.length : Int) != (a1.length : Int)) (by kernel_rfl) hb1 ?_
  refine cQ ?_
  refine cR [0] (by kernel_rfl) ?_
  refine oP (r := []) [0] (S' := [(4, .bool false)]) (by kernel_rfl) ?_
  refine oD ?_
  refine qT ?_
  refine CodT.ret ?_
  refine Qn.ret_then ?_
  have e := someS h0
  subst e
  refine qK [4] (S' := [(4, .bool false)]) (by kernel_rfl) ?_
  exact post_ret (v := .bool false) (fun a ha => RunRes.run (vs := [.bool false]) (.tmp (t := 4) (by kernel_rfl) .nil) ha (by kernel_rfl)) ⟨rfl, hI⟩
 ·
  rw [if_neg hb1] at h0
  refine CodT.no' (b := (a0.length : Int) != (a1.length : Int)) (by kernel_rfl) (by simpa using hb1) ?_
  refine CodT.skip ?_
  refine qT ?_
  refine cQ ?_
  refine cQ ?_
  refine cR [0] (by kernel_rfl) ?_
  refine oP (r := []) [0] (S' := [(0, .slice A_a0 a0.length c_a0), (1, .slice A_a1 a1.length c_a1), (5, iv 0)]) (by kernel_rfl) ?_
  refine oD ?_
  refine qT ?_
  obtain ⟨r1, h1, h0⟩ := bindS h0
  refine CodT.meet1 (fun a w => .inr () = r1 ∧ Fr 26 [] a ∧ Inv w0 Z w A) ?_ ?_
  ·
   refine CodT.block ?_
   refine (fun a ha => wp_loopN (fun k a w => ∃ (x2 : Int), ref07_Texts.l0 a0 a1 k x2 = some r1 ∧ Fr 26 [(0, .slice A_a0 a0.length c_a0), (1, .slice A_a1 a1.length c_a1), (5, iv x2)] a ∧ Inv w0 Z w A) ?_ FU a w ⟨0, h1, ha.keep [0, 1, 5] (by kernel_rfl), hI⟩)
   clear h1 hI
   rintro k a w ⟨x2, h1, ha, hI⟩
   rcases k with _ | k
   ·
    cases h1
   simp only [ref07_Texts.l0] at h1
   refine CodT.of ?_ ha
   refine cQ ?_
   refine cQ ?_
   refine cR [0, 1, 2, 3] (by kernel_rfl) ?_
   refine oP (r := []) [0, 1, 2, 3] (S' := [(0, .slice A_a0 a0.length c_a0), (1, .slice A_a1 a1.length c_a1), (5, iv x2), (14, .bool (decide (x2 < (a0.length : Int))))]) (by kernel_rfl) ?_
   refine oD ?_
   refine qT ?_
   by_cases hb3 : (decide (x2 < (a0.length : Int))) = true
   ·
    rw [if_pos hb3] at h1
    refine CodT.yes' (b := decide (x2 < (a0.length : Int))) (by kernel_rfl) hb3 ?_
    refine CodT.skip ?_
    refine qT ?_
    refine cQ ?_
    refine CodT.block ?_
    refine cQ ?_
    refine CodT.drawI (n := 9) [] (by kernel_rfl) (by kernel_rfl) hI ?_
    intro w hI
    refine GmT.p' 0 17 (.slice A_a0 a0.length c_a0) (by kernel_rfl) (by kernel_rfl) ?_
    refine GmT.p' 1 18 (iv x2) (by kernel_rfl) (by kernel_rfl) ?_
    refine GmT.p' 4 21 (.slice A_a1 a1.length c_a1) (by kernel_rfl) (by kernel_rfl) ?_
    refine GmT.p' 5 22 (iv x2) (by kernel_rfl) (by kernel_rfl) ?_
    obtain ⟨hg4, h1⟩ := guardS h1
    obtain ⟨g5, o9, hA6, hr7, hl8⟩ := RdS.get hr_a0 hg4.1 hg4.2
    refine GmT.r (i := 2) 2 (by kernel_rfl) (by kernel_rfl) (Yl.indexSlice (d := 19) (T := 25) (cc := c_a0) (k := .i64) (j := x2) (g := g5) (o := o9) (by kernel_rfl) Go.Proofs.Tryd.underlying25 ty9 hA6 hg4.1 hg4.2) hI ?_
    refine GmT.r (i := 3) 2 (by kernel_rfl) (by kernel_rfl) (Yl.load (d := 20) (T := 9) (v := .string (gt a0 x2)) (by kernel_rfl) (ldR ty9 (v := .string (gt a0 x2)) 0 (fun w hC => hr7 w0 w _ hC) (by kernel_rfl))) hI ?_
    obtain ⟨hg10, h1⟩ := guardS h1
    obtain ⟨g11, o15, hA12, hr13, hl14⟩ := RdS.get hr_a1 hg10.1 hg10.2
    refine GmT.r (i := 6) 2 (by kernel_rfl) (by kernel_rfl) (Yl.indexSlice (d := 23) (T := 25) (cc := c_a1) (k := .i64) (j := x2) (g := g11) (o := o15) (by kernel_rfl) Go.Proofs.Tryd.underlying25 ty9 hA12 hg10.1 hg10.2) hI ?_
    refine GmT.r (i := 7) 2 (by kernel_rfl) (by kernel_rfl) (Yl.load (d := 24) (T := 9) (v := .string (gt a1 x2)) (by kernel_rfl) (ldR ty9 (v := .string (gt a1 x2)) 0 (fun w hC => hr13 w0 w _ hC) (by kernel_rfl))) hI ?_
    refine GmT.p' 8 25 (.bool (!(seq (gt a0 x2) (gt a1 x2)))) (by kernel_rfl) (by kernel_rfl) ?_
    refine GmT.done (by kernel_rfl) ?_
    refine qT ?_
    by_cases hb16 : (!(seq (gt a0 x2) (gt a1 x2))) = true
    ·
     rw [if_pos hb16] at h1
     refine CodT.yes' (b := !(seq (gt a0 x2) (gt a1 x2))) (by kernel_rfl) hb16 ?_
     refine cQ ?_
     refine cR [0] (by kernel_rfl) ?_
     refine oP (r := []) [0] (S' := [(4, .bool false)]) (by kernel_rfl) ?_
     refine oD ?_
     refine qT ?_
     refine CodT.ret ?_
     refine Qn.block_ret ?_
     refine Qn.ret_then ?_
     refine Qn.ret_then ?_
     refine Qn.block_ret ?_
     refine Qn.ret_then ?_
     refine Qn.ret_then ?_
     have e := someS h1
     subst e
     try dsimp only at h0
     have e := someS h0
     subst e
     refine qK [4] (S' := [(4, .bool false)]) (by kernel_rfl) ?_
     exact post_ret (v := .bool false) (fun a ha => RunRes.run (vs := [.bool false]) (.tmp (t := 4) (by kernel_rfl) .nil) ha (by kernel_rfl)) ⟨rfl, hI⟩
    ·
     rw [if_neg hb16] at h1
     refine CodT.no' (b := !(seq (gt a0 x2) (gt a1 x2))) (by kernel_rfl) (by simpa using hb16) ?_
     refine CodT.skip ?_
     refine Qn.block_normal ?_
     refine qT ?_
     refine cR [0, 1, 2] (by kernel_rfl) ?_
     refine oP (r := []) [0, 1, 2] (S' := [(0, .slice A_a0 a0.length c_a0), (1, .slice A_a1 a1.length c_a1), (5, iv (wi64 (x2 + 1)))]) (by kernel_rfl) ?_
     refine oD ?_
     exact Qn.thenJ fun a ha => ⟨k, Nat.lt_succ_self k, wi64 (x2 + 1), h1, ha.keep [0, 1, 5] (by kernel_rfl), hI⟩
   ·
    rw [if_neg hb3] at h1
    refine CodT.no' (b := decide (x2 < (a0.length : Int))) (by kernel_rfl) (by simpa using hb3) ?_
    refine CodT.exit ?_
    refine Qn.exit_then ?_
    refine Qn.exit_then ?_
    refine Qn.block ?_
    have e := someS h1
    subst e
    exact Qn.thenJ fun a ha => ⟨rfl, ha.keep [] (by kernel_rfl), hI⟩
  ·
   rintro a w ⟨rfl, ha, hI⟩
   try dsimp only at h0
   refine Qn.of ?_ ha
   refine qT ?_
   refine cQ ?_
   refine cR [0] (by kernel_rfl) ?_
   refine oP (r := []) [0] (S' := [(4, .bool true)]) (by kernel_rfl) ?_
   refine oD ?_
   refine qT ?_
   refine CodT.ret ?_
   have e := someS h0
   subst e
   refine qK [4] (S' := [(4, .bool true)]) (by kernel_rfl) ?_
   exact post_ret (v := .bool true) (fun a ha => RunRes.run (vs := [.bool true]) (.tmp (t := 4) (by kernel_rfl) .nil) ha (by kernel_rfl)) ⟨rfl, hI⟩
/-- cenotaph/cenotaphref07.Same -/
theorem c24 (w0 w : World) (Z : Hp) (A : HP) (hI : Inv w0 Z w A) (hT : Tabs Z) (uf : Int) (ug : ByteArray) (ud : ByteArray) (uh : Bool) (ui : Int) (ua : Option Addr) (ubh : Nat) (ue : (List ByteArray)) (uca : RdS Z cS 1 ua ubh ue) (ubb : Int) (ubc : ByteArray) (uj : ByteArray) (ubd : Bool) (ube : Int) (ub : Option Addr) (ubi : Nat) (uba : (List ByteArray)) (ucb : RdS Z cS 1 ub ubi uba) (r : Bool) (h0 : ref07_Same uf ug ud uh ui ue ubb ubc uj ubd ube uba = some r) :
  Calls prog 24 #[.agg ([iv uf, .string ug, .string ud, .bool uh, iv ui, .slice ua ue.length ubh] : LV).toArray, .agg ([iv ubb, .string ubc, .string uj, .bool ubd, iv ube, .slice ub uba.length ubi] : LV).toArray] w (fun e w' => e = .returned (.bool r) ∧ Inv w0 Z w' A) := by
 have e4 := calls_intro (R := (fun e w' => e = .returned (.bool r) ∧ Inv w0 Z w' A)) (w := w) (args := [.agg ([iv uf, .string ug, .string ud, .bool uh, iv ui, .slice ua ue.length ubh] : LV).toArray, .agg ([iv ubb, .string ubc, .string uj, .bool ubd, iv ube, .slice ub uba.length ubi] : LV).toArray]) (fn := Go.Proofs.Tryd.f24) 45 Go.Proofs.Tryd.func24 (by rfl) Go.Proofs.Tryd.ntmps24 (by kernel_rfl)
 refine e4 ?_
 clear e4
 unfold ref07_Same at h0
 refine cQ ?_
 refine cR [0, 1, 2] (by kernel_rfl) ?_
 refine oC (Does.boxL (d := 2) (T := 27) (v := .agg ([iv uf, .string ug, .string ud, .bool uh, iv ui, .slice ua ue.length ubh] : LV).toArray) ([iv uf, .string ug, .string ud, .bool uh, iv ui, .slice ua ue.length ubh] : LV) (by kernel_rfl) hI (by kernel_rfl) ?_)
 intro b1 w hI
 refine oC (Does.boxL (d := 3) (T := 27) (v := .agg ([iv ubb, .string ubc, .string uj, .bool ubd, iv ube, .slice ub uba.length ubi] : LV).toArray) ([iv ubb, .string ubc, .string uj, .bool ubd, iv ube, .slice ub uba.length ubi] : LV) (by kernel_rfl) hI (by kernel_rfl) ?_)
 intro b2 w hI
 refine oP (r := []) [2] (S' := [(2, pb b1), (3, pb b2)]) (by kernel_rfl) ?_
 refine oD ?_
 refine qT ?_
 obtain ⟨r1, h1, h0⟩ := bindS h0
 refine CodT.meet (fun a w => ∃ (x3 : Bool), x3 = r1 ∧ Fr 45 [(4, .bool x3)] a ∧ Inv w0 Z w A) ?_ ?_
 ·
  refine cR [0, 1, 2, 3, 4, 5, 6, 7, 8, 9, 10, 11, 12, 13, 14, 15, 16, 17, 18, 19, 20, 21, 22, 23, 24, 25, 26, 27, 28, 29, 30, 31, 32, 33, 34, 35, 36, 37, 38, 39, 40] (by kernel_rfl) ?_
  refine oP (r := [1, 2, 3, 4, 5, 6, 7, 8, 9, 10, 11, 12, 13, 14, 15, 16, 17, 18, 19, 20, 21, 22, 23, 24, 25, 26, 27, 28, 29, 30, 31, 32, 33, 34, 35, 36, 37, 38, 39, 40]) [0] (S' := [(2, pb b1), (3, pb b2), (5, pb b1)]) (by kernel_rfl) ?_
  refine oC (Does.yi (Yl.load (d := 6) (T := 3) (v := iv uf) (by kernel_rfl) (ldB ty3 (l := ([iv uf, .string ug, .string ud, .bool uh, iv ui, .slice ua ue.length ubh] : LV)) (o := 0) (v := iv uf) (pick2 _ _ _) (by kernel_rfl))) hI ?_)
  refine oP (r := [3, 4, 5, 6, 7, 8, 9, 10, 11, 12, 13, 14, 15, 16, 17, 18, 19, 20, 21, 22, 23, 24, 25, 26, 27, 28, 29, 30, 31, 32, 33, 34, 35, 36, 37, 38, 39, 40]) [2] (S' := [(2, pb b1), (3, pb b2), (6, iv uf), (7, pb b2)]) (by kernel_rfl) ?_
  refine oC (Does.yi (Yl.load (d := 8) (T := 3) (v := iv ubb) (by kernel_rfl) (ldB ty3 (l := ([iv ubb, .string ubc, .string uj, .bool ubd, iv ube, .slice ub uba.length ubi] : LV)) (o := 0) (v := iv ubb) (ent_refl _) (by kernel_rfl))) hI ?_)
  refine oP (r := [6, 7, 8, 9, 10, 11, 12, 13, 14, 15, 16, 17, 18, 19, 20, 21, 22, 23, 24, 25, 26, 27, 28, 29, 30, 31, 32, 33, 34, 35, 36, 37, 38, 39, 40]) [4, 5] (S' := [(2, pb b1), (3, pb b2), (10, .bool (uf == ubb))]) (by kernel_rfl) ?_
  by_cases hb4 : (uf == ubb) = true
  ·
   rw [if_pos hb4] at h1
   refine oK [2, 3, 10] (S' := [(2, pb b1), (3, pb b2), (10, .bool true)]) (by (try simp only [hb4]); kernel_rfl) ?_
   refine oP (r := [7, 8, 9, 10, 11, 12, 13, 14, 15, 16, 17, 18, 19, 20, 21, 22, 23, 24, 25, 26, 27, 28, 29, 30, 31, 32, 33, 34, 35, 36, 37, 38, 39, 40]) [6] (S' := [(2, pb b1), (3, pb b2), (10, .bool true), (11, .pointer (some ⟨b1, 1, none⟩))]) (by kernel_rfl) ?_
   refine oC (Does.yi (Yl.load (d := 12) (T := 9) (v := .string ug) (by kernel_rfl) (ldB ty9 (l := ([iv uf, .string ug, .string ud, .bool uh, iv ui, .slice ua ue.length ubh] : LV)) (o := 1) (v := .string ug) (pick2 _ _ _) (by kernel_rfl))) hI ?_)
   refine oP (r := [9, 10, 11, 12, 13, 14, 15, 16, 17, 18, 19, 20, 21, 22, 23, 24, 25, 26, 27, 28, 29, 30, 31, 32, 33, 34, 35, 36, 37, 38, 39, 40]) [8] (S' := [(2, pb b1), (3, pb b2), (10, .bool true), (12, .string ug), (13, .pointer (some ⟨b2, 1, none⟩))]) (by kernel_rfl) ?_
   refine oC (Does.yi (Yl.load (d := 14) (T := 9) (v := .string ubc) (by kernel_rfl) (ldB ty9 (l := ([iv ubb, .string ubc, .string uj, .bool ubd, iv ube, .slice ub uba.length ubi] : LV)) (o := 1) (v := .string ubc) (ent_refl _) (by kernel_rfl))) hI ?_)
   refine oP (r := [13, 14, 15, 16, 17, 18, 19, 20, 21, 22, 23, 24, 25, 26, 27, 28, 29, 30, 31, 32, 33, 34, 35, 36, 37, 38, 39, 40]) [10, 11, 12] (S' := [(2, pb b1), (3, pb b2), (17, .bool (seq ug ubc))]) (by kernel_rfl) ?_
   by_cases hb5 : (seq ug ubc) = true
   ·
    rw [if_pos hb5] at h1
    refine oK [2, 3, 17] (S' := [(2, pb b1), (3, pb b2), (17, .bool true)]) (by (try simp only [hb5]); kernel_rfl) ?_
    refine oP (r := [14, 15, 16, 17, 18, 19, 20, 21, 22, 23, 24, 25, 26, 27, 28, 29, 30, 31, 32, 33, 34, 35, 36, 37, 38, 39, 40]) [13] (S' := [(2, pb b1), (3, pb b2), (17, .bool true), (18, .pointer (some ⟨b1, 2, none⟩))]) (by kernel_rfl) ?_
    refine oC (Does.yi (Yl.load (d := 19) (T := 9) (v := .string ud) (by kernel_rfl) (ldB ty9 (l := ([iv uf, .string ug, .string ud, .bool uh, iv ui, .slice ua ue.length ubh] : LV)) (o := 2) (v := .string ud) (pick2 _ _ _) (by kernel_rfl))) hI ?_)
    refine oP (r := [16, 17, 18, 19, 20, 21, 22, 23, 24, 25, 26, 27, 28, 29, 30, 31, 32, 33, 34, 35, 36, 37, 38, 39, 40]) [15] (S' := [(2, pb b1), (3, pb b2), (17, .bool true), (19, .string ud), (20, .pointer (some ⟨b2, 2, none⟩))]) (by kernel_rfl) ?_
    refine oC (Does.yi (Yl.load (d := 21) (T := 9) (v := .string uj) (by kernel_rfl) (ldB ty9 (l := ([iv ubb, .string ubc, .string uj, .bool ubd, iv ube, .slice ub uba.length ubi] : LV)) (o := 2) (v := .string uj) (ent_refl _) (by kernel_rfl))) hI ?_)
    refine oP (r := [20, 21, 22, 23, 24, 25, 26, 27, 28, 29, 30, 31, 32, 33, 34, 35, 36, 37, 38, 39, 40]) [17, 18, 19] (S' := [(2, pb b1), (3, pb b2), (24, .bool (seq ud uj))]) (by kernel_rfl) ?_
    by_cases hb6 : (seq ud uj) = true
    ·
     rw [if_pos hb6] at h1
     refine oK [2, 3, 24] (S' := [(2, pb b1), (3, pb b2), (24, .bool true)]) (by (try simp only [hb6]); kernel_rfl) ?_
     refine oP (r := [21, 22, 23, 24, 25, 26, 27, 28, 29, 30, 31, 32, 33, 34, 35, 36, 37, 38, 39, 40]) [20] (S' := [(2, pb b1), (3, pb b2), (24, .bool true), (25, .pointer (some ⟨b1, 3, none⟩))]) (by kernel_rfl) ?_
     refine oC (Does.yi (Yl.load (d := 26) (T := 4) (v := .bool uh) (by kernel_rfl) (ldB ty4 (l := ([iv uf, .string ug, .string ud, .bool uh, iv ui, .slice ua ue.length ubh] : LV)) (o := 3) (v := .bool uh) (pick2 _ _ _) (by kernel_rfl))) hI ?_)
     refine oP (r := [23, 24, 25, 26, 27, 28, 29, 30, 31, 32, 33, 34, 35, 36, 37, 38, 39, 40]) [22] (S' := [(2, pb b1), (3, pb b2), (24, .bool true), (26, .bool uh), (27, .pointer (some ⟨b2, 3, none⟩))]) (by kernel_rfl) ?_
     refine oC (Does.yi (Yl.load (d := 28) (T := 4) (v := .bool ubd) (by kernel_rfl) (ldB ty4 (l := ([iv ubb, .string ubc, .string uj, .bool ubd, iv ube, .slice ub uba.length ubi] : LV)) (o := 3) (v := .bool ubd) (ent_refl _) (by kernel_rfl))) hI ?_)
     refine oP (r := [27, 28, 29, 30, 31, 32, 33, 34, 35, 36, 37, 38, 39, 40]) [24, 25, 26] (S' := [(2, pb b1), (3, pb b2), (31, .bool (uh == ubd))]) (by kernel_rfl) ?_
     by_cases hb7 : (uh == ubd) = true
     ·
      rw [if_pos hb7] at h1
      refine oK [2, 3, 31] (S' := [(2, pb b1), (3, pb b2), (31, .bool true)]) (by (try simp only [hb7]); kernel_rfl) ?_
      refine oP (r := [28, 29, 30, 31, 32, 33, 34, 35, 36, 37, 38, 39, 40]) [27] (S' := [(2, pb b1), (3, pb b2), (31, .bool true), (32, .pointer (some ⟨b1, 4, none⟩))]) (by kernel_rfl) ?_
      refine oC (Does.yi (Yl.load (d := 33) (T := 3) (v := iv ui) (by kernel_rfl) (ldB ty3 (l := ([iv uf, .string ug, .string ud, .bool uh, iv ui, .slice ua ue.length ubh] : LV)) (o := 4) (v := iv ui) (pick2 _ _ _) (by kernel_rfl))) hI ?_)
      refine oP (r := [30, 31, 32, 33, 34, 35, 36, 37, 38, 39, 40]) [29] (S' := [(2, pb b1), (3, pb b2), (31, .bool true), (33, iv ui), (34, .pointer (some ⟨b2, 4, none⟩))]) (by kernel_rfl) ?_
      refine oC (Does.yi (Yl.load (d := 35) (T := 3) (v := iv ube) (by kernel_rfl) (ldB ty3 (l := ([iv ubb, .string ubc, .string uj, .bool ubd, iv ube, .slice ub uba.length ubi] : LV)) (o := 4) (v := iv ube) (ent_refl _) (by kernel_rfl))) hI ?_)
      refine oP (r := [34, 35, 36, 37, 38, 39, 40]) [31, 32, 33] (S' := [(2, pb b1), (3, pb b2), (38, .bool (ui == ube))]) (by kernel_rfl) ?_
      by_cases hb8 : (ui == ube) = true
      ·
       rw [if_pos hb8] at h1
       refine oK [2, 3, 38] (S' := [(2, pb b1), (3, pb b2), (38, .bool true)]) (by (try simp only [hb8]); kernel_rfl) ?_
       refine oP (r := [35, 36, 37, 38, 39, 40]) [34] (S' := [(3, pb b2), (38, .bool true), (39, .pointer (some ⟨b1, 5, none⟩))]) (by kernel_rfl) ?_
       refine oC (Does.yi (Yl.load (d := 40) (T := 25) (v := .slice ua ue.length ubh) (by kernel_rfl) (ldB ty25 (l := ([iv uf, .string ug, .string ud, .bool uh, iv ui, .slice ua ue.length ubh] : LV)) (o := 5) (v := .slice ua ue.length ubh) (pick2 _ _ _) (by kernel_rfl))) hI ?_)
       refine oP (r := [37, 38, 39, 40]) [36] (S' := [(38, .bool true), (40, .slice ua ue.length ubh), (41, .pointer (some ⟨b2, 5, none⟩))]) (by kernel_rfl) ?_
       refine oC (Does.yi (Yl.load (d := 42) (T := 25) (v := .slice ub uba.length ubi) (by kernel_rfl) (ldB ty25 (l := ([iv ubb, .string ubc, .string uj, .bool ubd, iv ube, .slice ub uba.length ubi] : LV)) (o := 5) (v := .slice ub uba.length ubi) (ent_refl _) (by kernel_rfl))) hI ?_)
       obtain ⟨y10, hc9, h1⟩ := bindS h1
       try dsimp only at h1
       refine oC (Does.call (d := some 43) (n := 42) (vs := [.slice ua ue.length ubh, .slice ub uba.length ubi]) (by kernel_rfl) en42 (c42 w0 w _ _ hI hT ua ubh ue uca ub ubi uba ucb _ hc9) ?_)
       rintro e w ⟨rfl, hI⟩
       refine ⟨_, rfl, ?_⟩
       refine oP (r := []) [39, 40] (S' := [(4, .bool y10)]) (by kernel_rfl) ?_
       refine oD ?_
       have hI := hI.drop
       have hI := hI.drop
       have e := someS h1
       subst e
       exact Qn.thenJ fun a ha => ⟨y10, rfl, ha.keep [4] (by kernel_rfl), hI⟩
      ·
       rw [if_neg hb8] at h1
       have hb8 : (ui == ube) = false := by simpa using hb8
       refine oK [2, 3, 38] (S' := [(2, pb b1), (3, pb b2), (38, .bool false)]) (by (try simp only [hb8]); kernel_rfl) ?_
       refine oP (r := []) [34, 35, 36, 37, 38, 39, 40] (S' := [(4, .bool false)]) (by kernel_rfl) ?_
       refine oD ?_
       have hI := hI.drop
       have hI := hI.drop
       have e := someS h1
       subst e
       exact Qn.thenJ fun a ha => ⟨false, rfl, ha.keep [4] (by kernel_rfl), hI⟩
     ·
      rw [if_neg hb7] at h1
      have hb7 : (uh == ubd) = false := by simpa using hb7
      refine oK [2, 3, 31] (S' := [(2, pb b1), (3, pb b2), (31, .bool false)]) (by (try simp only [hb7]); kernel_rfl) ?_
      refine oP (r := []) [27, 28, 29, 30, 31, 32, 33, 34, 35, 36, 37, 38, 39, 40] (S' := [(4, .bool false)]) (by kernel_rfl) ?_
      refine oD ?_
      have hI := hI.drop
      have hI := hI.drop
      have e := someS h1
      subst e
      exact Qn.thenJ fun a ha => ⟨false, rfl, ha.keep [4] (by kernel_rfl), hI⟩
    ·
     rw [if_neg hb6] at h1
     have hb6 : (seq ud uj) = false := by simpa using hb6
     refine oK [2, 3, 24] (S' := [(2, pb b1), (3, pb b2), (24, .bool false)]) (by (try simp only [hb6]); kernel_rfl) ?_
     refine oP (r := []) [20, 21, 22, 23, 24, 25, 26, 27, 28, 29, 30, 31, 32, 33, 34, 35, 36, 37, 38, 39, 40] (S' := [(4, .bool false)]) (by kernel_rfl) ?_
     refine oD ?_
     have hI := hI.drop
     have hI := hI.drop
     have e := someS h1
     subst e
     exact Qn.thenJ fun a ha => ⟨false, rfl, ha.keep [4] (by kernel_rfl), hI⟩
   ·
    rw [if_neg hb5] at h1
    have hb5 : (seq ug ubc) = false := by simpa using hb5
    refine oK [2, 3, 17] (S' := [(2, pb b1), (3, pb b2), (17, .bool false)]) (by (try simp only [hb5]); kernel_rfl) ?_
    refine oP (r := []) [13, 14, 15, 16, 17, 18, 19, 20, 21, 22, 23, 24, 25, 26, 27, 28, 29, 30, 31, 32, 33, 34, 35, 36, 37, 38, 39, 40] (S' := [(4, .bool false)]) (by kernel_rfl) ?_
    refine oD ?_
    have hI := hI.drop
    have hI := hI.drop
    have e := someS h1
    subst e
    exact Qn.thenJ fun a ha => ⟨false, rfl, ha.keep [4] (by kernel_rfl), hI⟩
  ·
   rw [if_neg hb4] at h1
   have hb4 : (uf == ubb) = false := by simpa using hb4
   refine oK [2, 3, 10] (S' := [(2, pb b1), (3, pb b2), (10, .bool false)]) (by (try simp only [hb4]); kernel_rfl) ?_
   refine oP (r := []) [6, 7, 8, 9, 10, 11, 12, 13, 14, 15, 16, 17, 18, 19, 20, 21, 22, 23, 24, 25, 26, 27, 28, 29, 30, 31, 32, 33, 34, 35, 36, 37, 38, 39, 40] (S' := [(4, .bool false)]) (by kernel_rfl) ?_
   refine oD ?_
   have hI := hI.drop
   have hI := hI.drop
   have e := someS h1
   subst e
   exact Qn.thenJ fun a ha => ⟨false, rfl, ha.keep [4] (by kernel_rfl), hI⟩
 ·
  rintro a w ⟨x3, rfl, ha, hI⟩
  try dsimp only at h0
  refine CodT.of ?_ ha
  refine CodT.ret ?_
  have e := someS h0
  subst e
  refine qK [4] (S' := [(4, .bool x3)]) (by kernel_rfl) ?_
  exact post_ret (v := .bool x3) (fun a ha => RunRes.run (vs := [.bool x3]) (.tmp (t := 4) (by kernel_rfl) .nil) ha (by kernel_rfl)) ⟨rfl, hI⟩
/-- cenotaph/cenotaphref03.Rune -/
theorem c63 (w0 w : World) (Z : Hp) (A : HP) (hI : Inv w0 Z w A) (hT : Tabs Z) (a0 : ByteArray) (r : (Int × Int)) (h0 : ref03_Rune a0 = some r) :
  Calls prog 63 #[.string a0] w (fun e w' => e = .returned (.tuple #[iv r.1, iv r.2]) ∧ Inv w0 Z w' A) := by
 have e4 := calls_intro (R := (fun e w' => e = .returned (.tuple #[iv r.1, iv r.2]) ∧ Inv w0 Z w' A)) (w := w) (args := [.string a0]) (fn := Go.Proofs.Tryd.f63) 85 Go.Proofs.Tryd.func63 (by rfl) Go.Proofs.Tryd.ntmps63 (by kernel_rfl)
 refine e4 ?_
 clear e4
 unfold ref03_Rune at h0
 refine cQ ?_
 refine cR [0, 1] (by kernel_rfl) ?_
 refine oP (r := []) [0, 1] (S' := [(0, .string a0)]) (by kernel_rfl) ?_
 refine oD ?_
 refine qT ?_
 refine cQ ?_
 refine cR [0, 1, 2, 3] (by kernel_rfl) ?_
 refine oP (r := [1, 2, 3]) [0] (S' := [(0, .string a0), (10, .string a0)]) (by kernel_rfl) ?_
 obtain ⟨hg1, h0⟩ := guardS h0
 refine oC (Does.yi (Yl.indexStr (d := 11) (T := 9) (k := .i64) (j := 0) (s := a0) (by kernel_rfl) Go.Proofs.Tryd.underlying9 hg1.1 hg1.2) hI ?_)
 refine oP (r := []) [2, 3] (S' := [(0, .string a0), (4, iv (wi64 (bt a0 0)))]) (by kernel_rfl) ?_
 refine oD ?_
 refine qT ?_
 refine cQ ?_
 refine cQ ?_
 refine cR [0, 1] (by kernel_rfl) ?_
 refine oP (r := []) [0, 1] (S' := [(0, .string a0), (4, iv (wi64 (bt a0 0))), (14, .bool (decide ((wi64 (bt a0 0)) < 128)))]) (by kernel_rfl) ?_
 refine oD ?_
 refine qT ?_
 by_cases hb2 : (decide ((wi64 (bt a0 0)) < 128)) = true
 ·
  rw [if_pos hb2] at h0
  refine CodT.yes' (b := decide ((wi64 (bt a0 0)) < 128)) (by kernel_rfl) hb2 ?_
  refine cQ ?_
  refine cR [0, 1, 2] (by kernel_rfl) ?_
  refine oP (r := []) [0, 1, 2] (S' := [(2, iv (wi64 (bt a0 0))), (3, iv 1)]) (by kernel_rfl) ?_
  refine oD ?_
  refine qT ?_
  refine CodT.ret ?_
  refine Qn.ret_then ?_
  have e := someS h0
  subst e
  refine qK [2, 3] (S' := [(2, iv (wi64 (bt a0 0))), (3, iv 1)]) (by kernel_rfl) ?_
  exact post_ret (v := .tuple #[iv (wi64 (bt a0 0)), iv 1]) (fun a ha => RunRes.run (vs := [iv (wi64 (bt a0 0)), iv 1]) (.tmp (t := 2) (by kernel_rfl) (.tmp (t := 3) (by kernel_rfl) .nil)) ha (by kernel_rfl)) ⟨rfl, hI⟩
 ·
  rw [if_neg hb2] at h0
  refine CodT.no' (b := decide ((wi64 (bt a0 0)) < 128)) (by kernel_rfl) (by simpa using hb2) ?_
  refine CodT.skip ?_
  refine qT ?_
  refine cQ ?_
  refine cR [0] (by kernel_rfl) ?_
  refine oP (r := []) [0] (S' := [(0, .string a0), (4, iv (wi64 (bt a0 0))), (5, iv 0)]) (by kernel_rfl) ?_
  refine oD ?_
  refine qT ?_
  refine cQ ?_
  refine cR [0] (by kernel_rfl) ?_
  refine oP (r := []) [0] (S' := [(0, .string a0), (4, iv (wi64 (bt a0 0))), (5, iv 0), (6, iv 0)]) (by kernel_rfl) ?_
  refine oD ?_
  refine qT ?_
  refine cQ ?_
  refine cR [0] (by kernel_rfl) ?_
  refine oP (r := []) [0] (S' := [(0, .string a0), (4, iv (wi64 (bt a0 0))), (5, iv 0), (6, iv 0), (7, iv 0)]) (by kernel_rfl) ?_
  refine oD ?_
  refine qT ?_
  obtain ⟨r1, h1, h0⟩ := bindS h0
  refine CodT.meet (fun a w => ∃ (x3 : Int) (x4 : Int) (x5 : Int), (x3, x4, x5) = r1 ∧ Fr 85 [(0, .string a0), (5, iv x3), (6, iv x4), (7, iv x5)] a ∧ Inv w0 Z w A) ?_ ?_
  ·
   obtain ⟨r2, h2, h1⟩ := bindS h1
   refine CodT.meet (fun a w => ∃ (x6 : Bool), x6 = r2 ∧ Fr 85 [(0, .string a0), (4, iv (wi64 (bt a0 0))), (5, iv 0), (6, iv 0), (7, iv 0), (21, .bool x6)] a ∧ Inv w0 Z w A) ?_ ?_
   ·
    refine cR [0, 1, 2, 3, 4, 5] (by kernel_rfl) ?_
    refine oP (r := [3, 4, 5]) [0, 1, 2] (S' := [(0, .string a0), (4, iv (wi64 (bt a0 0))), (5, iv 0), (6, iv 0), (7, iv 0), (18, .bool (decide ((wi64 (bt a0 0)) ≥ 194)))]) (by kernel_rfl) ?_
    by_cases hb7 : (decide ((wi64 (bt a0 0)) ≥ 194)) = true
    ·
     rw [if_pos hb7] at h2
     refine oK [0, 4, 5, 6, 7, 18] (S' := [(0, .string a0), (4, iv (wi64 (bt a0 0))), (5, iv 0), (6, iv 0), (7, iv 0), (18, .bool true)]) (by (try simp only [hb7]); kernel_rfl) ?_
     refine oP (r := []) [3, 4, 5] (S' := [(0, .string a0), (4, iv (wi64 (bt a0 0))), (5, iv 0), (6, iv 0), (7, iv 0), (21, .bool (decide ((wi64 (bt a0 0)) < 224)))]) (by kernel_rfl) ?_
     refine oD ?_
     have e := someS h2
     subst e
     exact Qn.thenJ fun a ha => ⟨decide ((wi64 (bt a0 0)) < 224), rfl, ha.keep [0, 4, 5, 6, 7, 21] (by kernel_rfl), hI⟩
    ·
     rw [if_neg hb7] at h2
     have hb7 : (decide ((wi64 (bt a0 0)) ≥ 194)) = false := by simpa using hb7
     refine oK [0, 4, 5, 6, 7, 18] (S' := [(0, .string a0), (4, iv (wi64 (bt a0 0))), (5, iv 0), (6, iv 0), (7, iv 0), (18, .bool false)]) (by (try simp only [hb7]); kernel_rfl) ?_
     refine oP (r := []) [3, 4, 5] (S' := [(0, .string a0), (4, iv (wi64 (bt a0 0))), (5, iv 0), (6, iv 0), (7, iv 0), (21, .bool false)]) (by kernel_rfl) ?_
     refine oD ?_
     have e := someS h2
     subst e
     exact Qn.thenJ fun a ha => ⟨false, rfl, ha.keep [0, 4, 5, 6, 7, 21] (by kernel_rfl), hI⟩
   ·
    rintro a w ⟨x6, rfl, ha, hI⟩
    try dsimp only at h1
    refine CodT.of ?_ ha
    by_cases hb8 : x6 = true
    ·
     rw [if_pos hb8] at h1
     refine CodT.yes' (b := x6) (by kernel_rfl) hb8 ?_
     refine cQ ?_
     refine cR [0] (by kernel_rfl) ?_
     refine oP (r := []) [0] (S' := [(0, .string a0), (4, iv (wi64 (bt a0 0))), (5, iv 2)]) (by kernel_rfl) ?_
     refine oD ?_
     refine qT ?_
     refine cQ ?_
     refine cR [0] (by kernel_rfl) ?_
     refine oP (r := []) [0] (S' := [(0, .string a0), (4, iv (wi64 (bt a0 0))), (5, iv 2), (6, iv 128)]) (by kernel_rfl) ?_
     refine oD ?_
     refine qT ?_
     refine cR [0, 1, 2] (by kernel_rfl) ?_
     refine oP (r := []) [0, 1, 2] (S' := [(0, .string a0), (5, iv 2), (6, iv 128), (7, iv (wi64 ((wi64 (bt a0 0)) - 192)))]) (by kernel_rfl) ?_
     refine oD ?_
     have e := someS h1
     subst e
     exact Qn.thenJ fun a ha => ⟨2, 128, wi64 ((wi64 (bt a0 0)) - 192), rfl, ha.keep [0, 5, 6, 7] (by kernel_rfl), hI⟩
    ·
     rw [if_neg hb8] at h1
     refine CodT.no' (b := x6) (by kernel_rfl) (by simpa using hb8) ?_
     obtain ⟨r2, h2, h1⟩ := bindS h1
     refine CodT.meet (fun a w => ∃ (x9 : Bool), x9 = r2 ∧ Fr 85 [(0, .string a0), (4, iv (wi64 (bt a0 0))), (5, iv 0), (6, iv 0), (7, iv 0), (29, .bool x9)] a ∧ Inv w0 Z w A) ?_ ?_
     ·
      refine cR [0, 1, 2, 3, 4, 5] (by kernel_rfl) ?_
      refine oP (r := [3, 4, 5]) [0, 1, 2] (S' := [(0, .string a0), (4, iv (wi64 (bt a0 0))), (5, iv 0), (6, iv 0), (7, iv 0), (26, .bool (decide ((wi64 (bt a0 0)) ≥ 224)))]) (by kernel_rfl) ?_
      by_cases hb10 : (decide ((wi64 (bt a0 0)) ≥ 224)) = true
      ·
       rw [if_pos hb10] at h2
       refine oK [0, 4, 5, 6, 7, 26] (S' := [(0, .string a0), (4, iv (wi64 (bt a0 0))), (5, iv 0), (6, iv 0), (7, iv 0), (26, .bool true)]) (by (try simp only [hb10]); kernel_rfl) ?_
       refine oP (r := []) [3, 4, 5] (S' := [(0, .string a0), (4, iv (wi64 (bt a0 0))), (5, iv 0), (6, iv 0), (7, iv 0), (29, .bool (decide ((wi64 (bt a0 0)) < 240)))]) (by kernel_rfl) ?_
       refine oD ?_
       have e := someS h2
       subst e
       exact Qn.thenJ fun a ha => ⟨decide ((wi64 (bt a0 0)) < 240), rfl, ha.keep [0, 4, 5, 6, 7, 29] (by kernel_rfl), hI⟩
      ·
       rw [if_neg hb10] at h2
       have hb10 : (decide ((wi64 (bt a0 0)) ≥ 224)) = false := by simpa using hb10
       refine oK [0, 4, 5, 6, 7, 26] (S' := [(0, .string a0), (4, iv (wi64 (bt a0 0))), (5, iv 0), (6, iv 0), (7, iv 0), (26, .bool false)]) (by (try simp only [hb10]); kernel_rfl) ?_
       refine oP (r := []) [3, 4, 5] (S' := [(0, .string a0), (4, iv (wi64 (bt a0 0))), (5, iv 0), (6, iv 0), (7, iv 0), (29, .bool false)]) (by kernel_rfl) ?_
       refine oD ?_
       have e := someS h2
       subst e
       exact Qn.thenJ fun a ha => ⟨false, rfl, ha.keep [0, 4, 5, 6, 7, 29] (by kernel_rfl), hI⟩
     ·
      rintro a w ⟨x9, rfl, ha, hI⟩
      try dsimp only at h1
      refine CodT.of ?_ ha
      by_cases hb11 : x9 = true
      ·
       rw [if_pos hb11] at h1
       refine CodT.yes' (b := x9) (by kernel_rfl) hb11 ?_
       refine cQ ?_
       refine cR [0] (by kernel_rfl) ?_
       refine oP (r := []) [0] (S' := [(0, .string a0), (4, iv (wi64 (bt a0 0))), (5, iv 3)]) (by kernel_rfl) ?_
       refine oD ?_
       refine qT ?_
       refine cQ ?_
       refine cR [0] (by kernel_rfl) ?_
       refine oP (r := []) [0] (S' := [(0, .string a0), (4, iv (wi64 (bt a0 0))), (5, iv 3), (6, iv 2048)]) (by kernel_rfl) ?_
       refine oD ?_
       refine qT ?_
       refine cR [0, 1, 2] (by kernel_rfl) ?_
       refine oP (r := []) [0, 1, 2] (S' := [(0, .string a0), (5, iv 3), (6, iv 2048), (7, iv (wi64 ((wi64 (bt a0 0)) - 224)))]) (by kernel_rfl) ?_
       refine oD ?_
       have e := someS h1
       subst e
       exact Qn.thenJ fun a ha => ⟨3, 2048, wi64 ((wi64 (bt a0 0)) - 224), rfl, ha.keep [0, 5, 6, 7] (by kernel_rfl), hI⟩
      ·
       rw [if_neg hb11] at h1
       refine CodT.no' (b := x9) (by kernel_rfl) (by simpa using hb11) ?_
       obtain ⟨r2, h2, h1⟩ := bindS h1
       refine CodT.meet (fun a w => ∃ (x12 : Bool), x12 = r2 ∧ Fr 85 [(0, .string a0), (4, iv (wi64 (bt a0 0))), (5, iv 0), (6, iv 0), (7, iv 0), (37, .bool x12)] a ∧ Inv w0 Z w A) ?_ ?_
       ·
        refine cR [0, 1, 2, 3, 4, 5] (by kernel_rfl) ?_
        refine oP (r := [3, 4, 5]) [0, 1, 2] (S' := [(0, .string a0), (4, iv (wi64 (bt a0 0))), (5, iv 0), (6, iv 0), (7, iv 0), (34, .bool (decide ((wi64 (bt a0 0)) ≥ 240)))]) (by kernel_rfl) ?_
        by_cases hb13 : (decide ((wi64 (bt a0 0)) ≥ 240)) = true
        ·
         rw [if_pos hb13] at h2
         refine oK [0, 4, 5, 6, 7, 34] (S' := [(0, .string a0), (4, iv (wi64 (bt a0 0))), (5, iv 0), (6, iv 0), (7, iv 0), (34, .bool true)]) (by (try simp only [hb13]); kernel_rfl) ?_
         refine oP (r := []) [3, 4, 5] (S' := [(0, .string a0), (4, iv (wi64 (bt a0 0))), (5, iv 0), (6, iv 0), (7, iv 0), (37, .bool (decide ((wi64 (bt a0 0)) < 245)))]) (by kernel_rfl) ?_
         refine oD ?_
         have e := someS h2
         subst e
         exact Qn.thenJ fun a ha => ⟨decide ((wi64 (bt a0 0)) < 245), rfl, ha.keep [0, 4, 5, 6, 7, 37] (by kernel_rfl), hI⟩
        ·
         rw [if_neg hb13] at h2
         have hb13 : (decide ((wi64 (bt a0 0)) ≥ 240)) = false := by simpa using hb13
         refine oK [0, 4, 5, 6, 7, 34] (S' := [(0, .string a0), (4, iv (wi64 (bt a0 0))), (5, iv 0), (6, iv 0), (7, iv 0), (34, .bool false)]) (by (try simp only [hb13]); kernel_rfl) ?_
         refine oP (r := []) [3, 4, 5] (S' := [(0, .string a0), (4, iv (wi64 (bt a0 0))), (5, iv 0), (6, iv 0), (7, iv 0), (37, .bool false)]) (by kernel_rfl) ?_
         refine oD ?_
         have e := someS h2
         subst e
         exact Qn.thenJ fun a ha => ⟨false, rfl, ha.keep [0, 4, 5, 6, 7, 37] (by kernel_rfl), hI⟩
       ·
        rintro a w ⟨x12, rfl, ha, hI⟩
        try dsimp only at h1
        refine CodT.of ?_ ha
        by_cases hb14 : x12 = true
        ·
         rw [if_pos hb14] at h1
         refine CodT.yes' (b := x12) (by kernel_rfl) hb14 ?_
         refine cQ ?_
         refine cR [0] (by kernel_rfl) ?_
         refine oP (r := []) [0] (S' := [(0, .string a0), (4, iv (wi64 (bt a0 0))), (5, iv 4)]) (by kernel_rfl) ?_
         refine oD ?_
         refine qT ?_
         refine cQ ?_
         refine cR [0] (by kernel_rfl) ?_
         refine oP (r := []) [0] (S' := [(0, .string a0), (4, iv (wi64 (bt a0 0))), (5, iv 4), (6, iv 65536)]) (by kernel_rfl) ?_
         refine oD ?_
         refine qT ?_
         refine cR [0, 1, 2] (by kernel_rfl) ?_
         refine oP (r := []) [0, 1, 2] (S' := [(0, .string a0), (5, iv 4), (6, iv 65536), (7, iv (wi64 ((wi64 (bt a0 0)) - 240)))]) (by kernel_rfl) ?_
         refine oD ?_
         have e := someS h1
         subst e
         exact Qn.thenJ fun a ha => ⟨4, 65536, wi64 ((wi64 (bt a0 0)) - 240), rfl, ha.keep [0, 5, 6, 7] (by kernel_rfl), hI⟩
        ·
         rw [if_neg hb14] at h1
         refine CodT.no' (b := x12) (by kernel_rfl) (by simpa using hb14) ?_
         refine CodT.skip ?_
         have e := someS h1
         subst e
         exact Qn.thenJ fun a ha => ⟨0, 0, 0, rfl, ha.keep [0, 5, 6, 7] (by kernel_rfl), hI⟩
  ·
   rintro a w ⟨x3, x4, x5, rfl, ha, hI⟩
   try dsimp only at h0
   refine CodT.of ?_ ha
   refine cQ ?_
   obtain ⟨r1, h1, h0⟩ := bindS h0
   refine CodT.meet (fun a w => ∃ (x15 : Bool), x15 = r1 ∧ Fr 85 [(0, .string a0), (5, iv x3), (6, iv x4), (7, iv x5), (47, .bool x15)] a ∧ Inv w0 Z w A) ?_ ?_
   ·
    refine cR [0, 1, 2, 3, 4, 5, 6, 7] (by kernel_rfl) ?_
    refine oP (r := [3, 4, 5, 6, 7]) [0, 1, 2] (S' := [(0, .string a0), (5, iv x3), (6, iv x4), (7, iv x5), (42, .bool (x3 == 0))]) (by kernel_rfl) ?_
    by_cases hb16 : (x3 == 0) = true
    ·
     rw [if_pos hb16] at h1
     refine oK [0, 5, 6, 7, 42] (S' := [(0, .string a0), (5, iv x3), (6, iv x4), (7, iv x5), (42, .bool true)]) (by (try simp only [hb16]); kernel_rfl) ?_
     refine oP (r := []) [3, 4, 5, 6, 7] (S' := [(0, .string a0), (5, iv x3), (6, iv x4), (7, iv x5), (47, .bool true)]) (by kernel_rfl) ?_
     refine oD ?_
     have e := someS h1
     subst e
     exact Qn.thenJ fun a ha => ⟨true, rfl, ha.keep [0, 5, 6, 7, 47] (by kernel_rfl), hI⟩
    ·
     rw [if_neg hb16] at h1
     have hb16 : (x3 == 0) = false := by simpa using hb16
     refine oK [0, 5, 6, 7, 42] (S' := [(0, .string a0), (5, iv x3), (6, iv x4), (7, iv x5), (42, .bool false)]) (by (try simp only [hb16]); kernel_rfl) ?_
     refine oP (r := []) [3, 4, 5, 6, 7] (S' := [(0, .string a0), (5, iv x3), (6, iv x4), (7, iv x5), (47, .bool (decide ((a0.size : Int) < x3)))]) (by kernel_rfl) ?_
     refine oD ?_
     have e := someS h1
     subst e
     exact Qn.thenJ fun a ha => ⟨decide ((a0.size : Int) < x3), rfl, ha.keep [0, 5, 6, 7, 47] (by kernel_rfl), hI⟩
   ·
    rintro a w ⟨x15, rfl, ha, hI⟩
    try dsimp only at h0
    refine CodT.of ?_ ha
    by_cases hb17 : x15 = true
    ·
     rw [if_pos hb17] at h0
     refine CodT.yes' (b := x15) (by kernel_rfl) hb17 ?_
     refine cQ ?_
     refine cR [0, 1] (by kernel_rfl) ?_
     refine oP (r := []) [0, 1] (S' := [(2, iv (-1)), (3, iv 1)]) (by kernel_rfl) ?_
     refine oD ?_
     refine qT ?_
     refine CodT.ret ?_
     refine Qn.ret_then ?_
     have e := someS h0
     subst e
     refine qK [2, 3] (S' := [(2, iv (-1)), (3, iv 1)]) (by kernel_rfl) ?_
     exact post_ret (v := .tuple #[iv (-1), iv 1]) (fun a ha => RunRes.run (vs := [iv (-1), iv 1]) (.tmp (t := 2) (by kernel_rfl) (.tmp (t := 3) (by kernel_rfl) .nil)) ha (by kernel_rfl)) ⟨rfl, hI⟩
    ·
     rw [if_neg hb17] at h0
     refine CodT.no' (b := x15) (by kernel_rfl) (by simpa using hb17) ?_
     refine CodT.skip ?_
     refine qT ?_
     refine cQ ?_
     refine cQ ?_
     refine cR [0] (by kernel_rfl) ?_
     refine oP (r := []) [0] (S' := [(0, .string a0), (5, iv x3), (6, iv x4), (7, iv x5), (8, iv 1)]) (by kernel_rfl) ?_
     refine oD ?_
     refine qT ?_
     obtain ⟨r1, h1, h0⟩ := bindS h0
     refine CodT.meet1 (fun a w => ∃ (x18 : Int), .inr x18 = r1 ∧ Fr 85 [(5, iv x3), (6, iv x4), (7, iv x18)] a ∧ Inv w0 Z w A) ?_ ?_
     ·
      refine CodT.block ?_
      refine (fun a ha => wp_loopN (fun k a w => ∃ (x19 : Int) (x20 : Int), ref03_Rune.l0 x3 a0 k x19 x20 = some r1 ∧ Fr 85 [(0, .string a0), (5, iv x3), (6, iv x4), (7, iv x19), (8, iv x20)] a ∧ Inv w0 Z w A) ?_ FU a w ⟨x5, 1, h1, ha.keep [0, 5, 6, 7, 8] (by kernel_rfl), hI⟩)
      clear h1 hI
      rintro k a w ⟨x19, x20, h1, ha, hI⟩
      rcases k with _ | k
      ·
       cases h1
      simp only [ref03_Rune.l0] at h1
      refine CodT.of ?_ ha
      refine cQ ?_
      refine cQ ?_
      refine cR [0, 1, 2] (by kernel_rfl) ?_
      refine oP (r := []) [0, 1, 2] (S' := [(0, .string a0), (5, iv x3), (6, iv x4), (7, iv x19), (8, iv x20), (50, .bool (decide (x20 < x3)))]) (by kernel_rfl) ?_
      refine oD ?_
      refine qT ?_
      by_cases hb21 : (decide (x20 < x3)) = true
      ·
       rw [if_pos hb21] at h1
       refine CodT.yes' (b := decide (x20 < x3)) (by kernel_rfl) hb21 ?_
       refine CodT.skip ?_
       refine qT ?_
       refine cQ ?_
       refine CodT.block ?_
       refine cQ ?_
       refine cR [0, 1, 2, 3, 4] (by kernel_rfl) ?_
       refine oP (r := [2, 3, 4]) [0, 1] (S' := [(0, .string a0), (5, iv x3), (6, iv x4), (7, iv x19), (8, iv x20), (53, .string a0), (54, iv x20)]) (by kernel_rfl) ?_
       obtain ⟨hg22, h1⟩ := guardS h1
       refine oC (Does.yi (Yl.indexStr (d := 55) (T := 9) (k := .i64) (j := x20) (s := a0) (by kernel_rfl) Go.Proofs.Tryd.underlying9 hg22.1 hg22.2) hI ?_)
       refine oP (r := []) [3, 4] (S' := [(0, .string a0), (5, iv x3), (6, iv x4), (7, iv x19), (8, iv x20), (9, iv (wi64 (bt a0 x20)))]) (by kernel_rfl) ?_
       refine oD ?_
       refine qT ?_
       refine cQ ?_
       obtain ⟨r2, h2, h1⟩ := bindS h1
       refine CodT.meet (fun a w => ∃ (x23 : Bool), x23 = r2 ∧ Fr 85 [(0, .string a0), (5, iv x3), (6, iv x4), (7, iv x19), (8, iv x20), (9, iv (wi64 (bt a0 x20))), (62, .bool x23)] a ∧ Inv w0 Z w A) ?_ ?_
       ·
        refine cR [0, 1, 2, 3, 4, 5] (by kernel_rfl) ?_
        refine oP (r := [3, 4, 5]) [0, 1, 2] (S' := [(0, .string a0), (5, iv x3), (6, iv x4), (7, iv x19), (8, iv x20), (9, iv (wi64 (bt a0 x20))), (59, .bool (decide ((wi64 (bt a0 x20)) < 128)))]) (by kernel_rfl) ?_
        by_cases hb24 : (decide ((wi64 (bt a0 x20)) < 128)) = true
        ·
         rw [if_pos hb24] at h2
         refine oK [0, 5, 6, 7, 8, 9, 59] (S' := [(0, .string a0), (5, iv x3), (6, iv x4), (7, iv x19), (8, iv x20), (9, iv (wi64 (bt a0 x20))), (59, .bool true)]) (by (try simp only [hb24]); kernel_rfl) ?_
         refine oP (r := []) [3, 4, 5] (S' := [(0, .string a0), (5, iv x3), (6, iv x4), (7, iv x19), (8, iv x20), (9, iv (wi64 (bt a0 x20))), (62, .bool true)]) (by kernel_rfl) ?_
         refine oD ?_
         have e := someS h2
         subst e
         exact Qn.thenJ fun a ha => ⟨true, rfl, ha.keep [0, 5, 6, 7, 8, 9, 62] (by kernel_rfl), hI⟩
        ·
         rw [if_neg hb24] at h2
         have hb24 : (decide ((wi64 (bt a0 x20)) < 128)) = false := by simpa using hb24
         refine oK [0, 5, 6, 7, 8, 9, 59] (S' := [(0, .string a0), (5, iv x3), (6, iv x4), (7, iv x19), (8, iv x20), (9, iv (wi64 (bt a0 x20))), (59, .bool false)]) (by (try simp only [hb24]); kernel_rfl) ?_
         refine oP (r := []) [3, 4, 5] (S' := [(0, .string a0), (5, iv x3), (6, iv x4), (7, iv x19), (8, iv x20), (9, iv (wi64 (bt a0 x20))), (62, .bool (decide ((wi64 (bt a0 x20)) > 191)))]) (by kernel_rfl) ?_
         refine oD ?_
         have e := someS h2
         subst e
         exact Qn.thenJ fun a ha => ⟨decide ((wi64 (bt a0 x20)) > 191), rfl, ha.keep [0, 5, 6, 7, 8, 9, 62] (by kernel_rfl), hI⟩
       ·
        rintro a w ⟨x23, rfl, ha, hI⟩
        try dsimp only at h1
        refine CodT.of ?_ ha
        by_cases hb25 : x23 = true
        ·
         rw [if_pos hb25] at h1
         refine CodT.yes' (b := x23) (by kernel_rfl) hb25 ?_
         refine cQ ?_
         refine cR [0, 1] (by kernel_rfl) ?_
         refine oP (r := []) [0, 1] (S' := [(2, iv (-1)), (3, iv 1)]) (by kernel_rfl) ?_
         refine oD ?_
         refine qT ?_
         refine CodT.ret ?_
         refine Qn.ret_then ?_
         refine Qn.block_ret ?_
         refine Qn.ret_then ?_
         refine Qn.ret_then ?_
         refine Qn.block_ret ?_
         refine Qn.ret_then ?_
         refine Qn.ret_then ?_
         have e := someS h1
         subst e
         try dsimp only at h0
         have e := someS h0
         subst e
         refine qK [2, 3] (S' := [(2, iv (-1)), (3, iv 1)]) (by kernel_rfl) ?_
         exact post_ret (v := .tuple #[iv (-1), iv 1]) (fun a ha => RunRes.run (vs := [iv (-1), iv 1]) (.tmp (t := 2) (by kernel_rfl) (.tmp (t := 3) (by kernel_rfl) .nil)) ha (by kernel_rfl)) ⟨rfl, hI⟩
        ·
         rw [if_neg hb25] at h1
         refine CodT.no' (b := x23) (by kernel_rfl) (by simpa using hb25) ?_
         refine CodT.skip ?_
         refine qT ?_
         refine cR [0, 1, 2, 3, 4, 5] (by kernel_rfl) ?_
         refine oP (r := []) [0, 1, 2, 3, 4, 5] (S' := [(0, .string a0), (5, iv x3), (6, iv x4), (7, iv (wi64 ((wi64 ((wi64 (x19 * 64)) + (wi64 (bt a0 x20)))) - 128))), (8, iv x20)]) (by kernel_rfl) ?_
         refine oD ?_
         refine Qn.block_normal ?_
         refine qT ?_
         refine cR [0, 1, 2] (by kernel_rfl) ?_
         refine oP (r := []) [0, 1, 2] (S' := [(0, .string a0), (5, iv x3), (6, iv x4), (7, iv (wi64 ((wi64 ((wi64 (x19 * 64)) + (wi64 (bt a0 x20)))) - 128))), (8, iv (wi64 (x20 + 1)))]) (by kernel_rfl) ?_
         refine oD ?_
         exact Qn.thenJ fun a ha => ⟨k, Nat.lt_succ_self k, wi64 ((wi64 ((wi64 (x19 * 64)) + (wi64 (bt a0 x20)))) - 128), wi64 (x20 + 1), h1, ha.keep [0, 5, 6, 7, 8] (by kernel_rfl), hI⟩
      ·
       rw [if_neg hb21] at h1
       refine CodT.no' (b := decide (x20 < x3)) (by kernel_rfl) (by simpa using hb21) ?_
       refine CodT.exit ?_
       refine Qn.exit_then ?_
       refine Qn.exit_then ?_
       refine Qn.block ?_
       have e := someS h1
       subst e
       exact Qn.thenJ fun a ha => ⟨x19, rfl, ha.keep [5, 6, 7] (by kernel_rfl), hI⟩
     ·
      rintro a w ⟨x18, rfl, ha, hI⟩
      try dsimp only at h0
      refine Qn.of ?_ ha
      refine qT ?_
      refine cQ ?_
      obtain ⟨r1, h1, h0⟩ := bindS h0
      refine CodT.meet (fun a w => ∃ (x26 : Bool), x26 = r1 ∧ Fr 85 [(5, iv x3), (7, iv x18), (82, .bool x26)] a ∧ Inv w0 Z w A) ?_ ?_
      ·
       refine cR [0, 1, 2, 3, 4, 5, 6, 7, 8, 9, 10, 11, 12, 13, 14] (by kernel_rfl) ?_
       refine oP (r := [4, 5, 6, 7, 8, 9, 10, 11, 12, 13, 14]) [0, 1, 2, 3] (S' := [(5, iv x3), (7, iv x18), (71, .bool (decide (x18 < x4)))]) (by kernel_rfl) ?_
       by_cases hb27 : (decide (x18 < x4)) = true
       ·
        rw [if_pos hb27] at h1
        refine oK [5, 7, 71] (S' := [(5, iv x3), (7, iv x18), (71, .bool true)]) (by (try simp only [hb27]); kernel_rfl) ?_
        refine oP (r := []) [4, 5, 6, 7, 8, 9, 10, 11, 12, 13, 14] (S' := [(5, iv x3), (7, iv x18), (82, .bool true)]) (by kernel_rfl) ?_
        refine oD ?_
        have e := someS h1
        subst e
        exact Qn.thenJ fun a ha => ⟨true, rfl, ha.keep [5, 7, 82] (by kernel_rfl), hI⟩
       ·
        rw [if_neg hb27] at h1
        have hb27 : (decide (x18 < x4)) = false := by simpa using hb27
        refine oK [5, 7, 71] (S' := [(5, iv x3), (7, iv x18), (71, .bool false)]) (by (try simp only [hb27]); kernel_rfl) ?_
        refine oP (r := [8, 9, 10, 11, 12, 13, 14]) [4, 5, 6, 7] (S' := [(5, iv x3), (7, iv x18), (75, .bool (decide (x18 > 1114111)))]) (by kernel_rfl) ?_
        by_cases hb28 : (decide (x18 > 1114111)) = true
        ·
         rw [if_pos hb28] at h1
         refine oK [5, 7, 75] (S' := [(5, iv x3), (7, iv x18), (75, .bool true)]) (by (try simp only [hb28]); kernel_rfl) ?_
         refine oP (r := []) [8, 9, 10, 11, 12, 13, 14] (S' := [(5, iv x3), (7, iv x18), (82, .bool true)]) (by kernel_rfl) ?_
         refine oD ?_
         have e := someS h1
         subst e
         exact Qn.thenJ fun a ha => ⟨true, rfl, ha.keep [5, 7, 82] (by kernel_rfl), hI⟩
        ·
         rw [if_neg hb28] at h1
         have hb28 : (decide (x18 > 1114111)) = false := by simpa using hb28
         refine oK [5, 7, 75] (S' := [(5, iv x3), (7, iv x18), (75, .bool false)]) (by (try simp only [hb28]); kernel_rfl) ?_
         refine oP (r := [11, 12, 13, 14]) [8, 9, 10] (S' := [(5, iv x3), (7, iv x18), (75, .bool false), (78, .bool (decide (x18 ≥ 55296)))]) (by kernel_rfl) ?_
         by_cases hb29 : (decide (x18 ≥ 55296)) = true
         ·
          rw [if_pos hb29] at h1
          refine oK [5, 7, 75, 78] (S' := [(5, iv x3), (7, iv x18), (75, .bool false), (78, .bool true)]) (by (try simp only [hb29]); kernel_rfl) ?_
          refine oP (r := []) [11, 12, 13, 14] (S' := [(5, iv x3), (7, iv x18), (82, .bool (decide (x18 ≤ 57343)))]) (by kernel_rfl) ?_
          refine oD ?_
          have e := someS h1
          subst e
          exact Qn.thenJ fun a ha => ⟨decide (x18 ≤ 57343), rfl, ha.keep [5, 7, 82] (by kernel_rfl), hI⟩
         ·
          rw [if_neg hb29] at h1
          have hb29 : (decide (x18 ≥ 55296)) = false := by simpa using hb29
          refine oK [5, 7, 75, 78] (S' := [(5, iv x3), (7, iv x18), (75, .bool false), (78, .bool false)]) (by (try simp only [hb29]); kernel_rfl) ?_
          refine oP (r := []) [11, 12, 13, 14] (S' := [(5, iv x3), (7, iv x18), (82, .bool false)]) (by kernel_rfl) ?_
          refine oD ?_
          have e := someS h1
          subst e
          exact Qn.thenJ fun a ha => ⟨false, rfl, ha.keep [5, 7, 82] (by kernel_rfl), hI⟩
      ·
       rintro a w ⟨x26, rfl, ha, hI⟩
       try dsimp only at h0
       refine CodT.of ?_ ha
       by_cases hb30 : x26 = true
       ·
        rw [if_pos hb30] at h0
        refine CodT.yes' (b := x26) (by kernel_rfl) hb30 ?_
        refine cQ ?_
        refine cR [0, 1] (by kernel_rfl) ?_
        refine oP (r := []) [0, 1] (S' := [(2, iv (-1)), (3, iv 1)]) (by kernel_rfl) ?_
        refine oD ?_
        refine qT ?_
        refine CodT.ret ?_
        refine Qn.ret_then ?_
        have e := someS h0
        subst e
        refine qK [2, 3] (S' := [(2, iv (-1)), (3, iv 1)]) (by kernel_rfl) ?_
        exact post_ret (v := .tuple #[iv (-1), iv 1]) (fun a ha => RunRes.run (vs := [iv (-1), iv 1]) (.tmp (t := 2) (by kernel_rfl) (.tmp (t := 3) (by kernel_rfl) .nil)) ha (by kernel_rfl)) ⟨rfl, hI⟩
       ·
        rw [if_neg hb30] at h0
        refine CodT.no' (b := x26) (by kernel_rfl) (by simpa using hb30) ?_
        refine CodT.skip ?_
        refine qT ?_
        refine cQ ?_
        refine cR [0, 1, 2, 3] (by kernel_rfl) ?_
        refine oP (r := []) [0, 1, 2, 3] (S' := [(2, iv x18), (3, iv x3)]) (by kernel_rfl) ?_
        refine oD ?_
        refine qT ?_
        refine CodT.ret ?_
        have e := someS h0
        subst e
        refine qK [2, 3] (S' := [(2, iv x18), (3, iv x3)]) (by kernel_rfl) ?_
        exact post_ret (v := .tuple #[iv x18, iv x3]) (fun a ha => RunRes.run (vs := [iv x18, iv x3]) (.tmp (t := 2) (by kernel_rfl) (.tmp (t := 3) (by kernel_rfl) .nil)) ha (by kernel_rfl)) ⟨rfl, hI⟩
/-- cenotaph/cenotaphref03.Runes -/
theorem c43 (w0 w : World) (Z : Hp) (A : HP) (hI : Inv w0 Z w A) (hT : Tabs Z) (a0 : ByteArray) (r : (List Int)) (h0 : ref03_Runes a0 = some r) :
  Calls prog 43 #[.string a0] w (fun e w' => ∃ (A1 : Option Addr) (c1 : Nat), e = .returned (.slice A1 r.length c1) ∧ Inv w0 Z w' (star (ownS 3 (cI .i64) 1 A1 c1 r) A)) := by
 have e4 := calls_intro (R := (fun e w' => ∃ (A1 : Option Addr) (c1 : Nat), e = .returned (.slice A1 r.length c1) ∧ Inv w0 Z w' (star (ownS 3 (cI .i64) 1 A1 c1 r) A))) (w := w) (args := [.string a0]) (fn := Go.Proofs.Tryd.f43) 33 Go.Proofs.Tryd.func43 (by rfl) Go.Proofs.Tryd.ntmps43 (by kernel_rfl)
 refine e4 ?_
 clear e4
 unfold ref03_Runes at h0
 refine cQ ?_
 refine cR [0] (by kernel_rfl) ?_
 refine oP (r := []) [0] (S' := [(0, .string a0)]) (by kernel_rfl) ?_
 refine oD ?_
 refine qT ?_
 refine cQ ?_
 refine cR [0] (by kernel_rfl) ?_
 refine oP (r := []) [0] (S' := [(0, .string a0), (3, .slice none 0 0)]) (by kernel_rfl) ?_
 refine oD ?_
 refine qT ?_
 refine cQ ?_
 refine cQ ?_
 refine cR [0] (by kernel_rfl) ?_
 refine oP (r := []) [0] (S' := [(0, .string a0), (3, .slice none 0 0), (4, iv 0)]) (by kernel_rfl) ?_
 refine oD ?_
 refine qT ?_
 obtain ⟨r1, h1, h0⟩ := bindS h0
 refine CodT.meet1 (fun a w => ∃ (x1 : (List Int)) (A2 : Option Addr) (cp3 : Nat), x1 = r1 ∧ Fr 33 [(3, .slice A2 x1.length cp3)] a ∧ Inv w0 Z w (star (ownS 3 (cI .i64) 1 A2 cp3 x1) A)) ?_ ?_
 ·
  refine CodT.block ?_
  have hI := ownS_nil (α := Int) hI 3 (cI .i64) 1
  refine (fun a ha => wp_loopN (fun k a w => ∃ (x4 : (List Int)) (x7 : Int) (A5 : Option Addr) (cp6 : Nat), ref03_Runes.l0 a0 k x4 x7 = some r1 ∧ Fr 33 [(0, .string a0), (3, .slice A5 x4.length cp6), (4, iv x7)] a ∧ Inv w0 Z w (star (ownS 3 (cI .i64) 1 A5 cp6 x4) A)) ?_ FU a w ⟨([] : List Int), 0, none, 0, h1, ha.keep [0, 3, 4] (by kernel_rfl), hI⟩)
  clear h1 hI
  rintro k a w ⟨x4, x7, A5, cp6, h1, ha, hI⟩
  rcases k with _ | k
  ·
   cases h1
  simp only [ref03_Runes.l0] at h1
  refine CodT.of ?_ ha
  refine cQ ?_
  refine cQ ?_
  refine cR [0, 1, 2, 3] (by kernel_rfl) ?_
  refine oP (r := []) [0, 1, 2, 3] (S' := [(0, .string a0), (3, .slice A5 x4.length cp6), (4, iv x7), (10, .bool (decide (x7 < (a0.size : Int))))]) (by kernel_rfl) ?_
  refine oD ?_
  refine qT ?_
  by_cases hb8 : (decide (x7 < (a0.size : Int))) = true
  ·
   rw [if_pos hb8] at h1
   refine CodT.yes' (b := decide (x7 < (a0.size : Int))) (by kernel_rfl) hb8 ?_
   refine CodT.skip ?_
   refine qT ?_
   refine CodT.block ?_
   refine cQ ?_
   refine cR [0, 1, 2, 3, 4, 5, 6, 7, 8] (by kernel_rfl) ?_
   refine oP (r := [2, 3, 4, 5, 6, 7, 8]) [0, 1] (S' := [(0, .string a0), (3, .slice A5 x4.length cp6), (4, iv x7), (12, .string a0), (13, iv x7)]) (by kernel_rfl) ?_
   obtain ⟨hg9, h1⟩ := guardS h1
   refine oC (Does.yi (Yl.sliceStr10 (d := 14) (T := 9) (s := a0) (lo := x7) (by kernel_rfl) Go.Proofs.Tryd.underlying9 hg9) hI ?_)
   obtain ⟨⟨y11, y12⟩, hc10, h1⟩ := bindS h1
   try dsimp only at h1
   refine oC (Does.call (d := some 15) (n := 63) (vs := [.string (sx a0 x7 (a0.size : Int))]) (by kernel_rfl) en63 (c63 w0 w _ _ hI hT (sx a0 x7 (a0.size : Int)) _ hc10) ?_)
   rintro e w ⟨rfl, hI⟩
   refine ⟨_, rfl, ?_⟩
   refine oP (r := []) [4, 5, 6, 7, 8] (S' := [(0, .string a0), (3, .slice A5 x4.length cp6), (4, iv x7), (5, iv y11), (6, iv y12)]) (by kernel_rfl) ?_
   refine oD ?_
   refine qT ?_
   obtain ⟨r2, h2, h1⟩ := bindS h1
   refine CodT.meet (fun a w => ∃ (x13 : Int), x13 = r2 ∧ Fr 33 [(0, .string a0), (3, .slice A5 x4.length cp6), (4, iv x7), (5, iv x13), (6, iv y12)] a ∧ Inv w0 Z w (star (ownS 3 (cI .i64) 1 A5 cp6 x4) A)) ?_ ?_
   ·
    refine cQ ?_
    refine cR [0, 1] (by kernel_rfl) ?_
    refine oP (r := []) [0, 1] (S' := [(0, .string a0), (3, .slice A5 x4.length cp6), (4, iv x7), (5, iv y11), (6, iv y12), (19, .bool (decide (y11 < 0)))]) (by kernel_rfl) ?_
    refine oD ?_
    refine qT ?_
    by_cases hb14 : (decide (y11 < 0)) = true
    ·
     rw [if_pos hb14] at h2
     refine CodT.yes' (b := decide (y11 < 0)) (by kernel_rfl) hb14 ?_
     refine cR [0, 1, 2, 3, 4, 5] (by kernel_rfl) ?_
     refine oP (r := [2, 3, 4, 5]) [0, 1] (S' := [(0, .string a0), (3, .slice A5 x4.length cp6), (4, iv x7), (6, iv y12), (20, .string a0), (21, iv x7)]) (by kernel_rfl) ?_
     obtain ⟨hg15, h2⟩ := guardS h2
     refine oC (Does.yi (Yl.indexStr (d := 22) (T := 9) (k := .i64) (j := x7) (s := a0) (by kernel_rfl) Go.Proofs.Tryd.underlying9 hg15.1 hg15.2) hI ?_)
     refine oP (r := []) [3, 4, 5] (S' := [(0, .string a0), (3, .slice A5 x4.length cp6), (4, iv x7), (5, iv (wi64 (1114112 + (wi64 (bt a0 x7))))), (6, iv y12)]) (by kernel_rfl) ?_
     refine oD ?_
     have e := someS h2
     subst e
     exact Qn.thenJ fun a ha => ⟨wi64 (1114112 + (wi64 (bt a0 x7))), rfl, ha.keep [0, 3, 4, 5, 6] (by kernel_rfl), hI⟩
    ·
     rw [if_neg hb14] at h2
     refine CodT.no' (b := decide (y11 < 0)) (by kernel_rfl) (by simpa using hb14) ?_
     refine CodT.skip ?_
     have e := someS h2
     subst e
     exact Qn.thenJ fun a ha => ⟨y11, rfl, ha.keep [0, 3, 4, 5, 6] (by kernel_rfl), hI⟩
   ·
    rintro a w ⟨x13, rfl, ha, hI⟩
    try dsimp only at h1
    refine CodT.of ?_ ha
    refine cQ ?_
    refine cR [0, 1, 2, 3, 4] (by kernel_rfl) ?_
    refine oP (r := [2, 3, 4]) [0, 1] (S' := [(0, .string a0), (4, iv x7), (6, iv y12), (25, .slice A5 x4.length cp6), (26, iv x13)]) (by kernel_rfl) ?_
    refine oC (Does.buildSlice (en := (cI .i64)) (d := 27) (n := 1) (T := 32) (ps := [(0, iv x13)]) ([x13] : List Int) (by kernel_rfl) Go.Proofs.Tryd.underlying32 ty3 (by kernel_rfl) (by kernel_rfl) (by kernel_rfl) (by kernel_rfl) (len_all (fun _ => rfl)) hI ?_)
    intro b16 w hI
    obtain ⟨hg17, h1⟩ := guardS h1
    have hI := hI.mono (pick2 _ _ _)
    refine oC (Does.append (d := 28) (t := 32) (tx := 32) (ty := 32) (ys := x4) (zs := ([x13] : List Int)) (x := .slice (some ⟨b16, 0, none⟩) (([x13] : List Int).length) 1) (by kernel_rfl) Go.Proofs.Tryd.underlying32 ty3 (by kernel_rfl) hI (src_own Go.Proofs.Tryd.underlying32 (hI.mono (pick2 _ _ _)) (one_flat _ (fun _ => rfl))) (ownS_facts (hI.mono (pick2 _ _ _))).2.2 (by unfold LIM at hg17; omega) hg17 ?_)
    intro A18 cp19 w hI
    refine oP (r := []) [4] (S' := [(0, .string a0), (3, .slice A18 ((x4 ++ ([x13] : List Int)).length) cp19), (4, iv x7), (6, iv y12)]) (by kernel_rfl) ?_
    refine oD ?_
    refine qT ?_
    refine cR [0, 1, 2, 3] (by kernel_rfl) ?_
    refine oP (r := []) [0, 1, 2, 3] (S' := [(0, .string a0), (3, .slice A18 ((x4 ++ ([x13] : List Int)).length) cp19), (4, iv (wi64 (x7 + y12)))]) (by kernel_rfl) ?_
    refine oD ?_
    refine Qn.block_normal ?_
    have hI := hI.mono (pick2 _ _ _)
    have hI := hI.drop
    exact Qn.thenJ fun a ha => ⟨k, Nat.lt_succ_self k, x4 ++ ([x13] : List Int), wi64 (x7 + y12), A18, cp19, h1, ha.keep [0, 3, 4] (by kernel_rfl), hI⟩
  ·
   rw [if_neg hb8] at h1
   refine CodT.no' (b := decide (x7 < (a0.size : Int))) (by kernel_rfl) (by simpa using hb8) ?_
   refine CodT.exit ?_
   refine Qn.exit_then ?_
   refine Qn.exit_then ?_
   refine Qn.block ?_
   have e := someS h1
   subst e
   exact Qn.thenJ fun a ha => ⟨x4, A5, cp6, rfl, ha.keep [3] (by kernel_rfl), hI⟩
 ·
  rintro a w ⟨x1, A2, cp3, rfl, ha, hI⟩
  try dsimp only at h0
  refine Qn.of ?_ ha
  refine qT ?_
  refine cQ ?_
  refine cR [0, 1] (by kernel_rfl) ?_
  refine oP (r := []) [0, 1] (S' := [(2, .slice A2 x1.length cp3)]) (by kernel_rfl) ?_
  refine oD ?_
  refine qT ?_
  refine CodT.ret ?_
  have e := someS h0
  subst e
  refine qK [2] (S' := [(2, .slice A2 x1.length cp3)]) (by kernel_rfl) ?_
  exact post_ret (v := .slice A2 x1.length cp3) (fun a ha => RunRes.run (vs := [.slice A2 x1.length cp3]) (.tmp (t := 2) (by kernel_rfl) .nil) ha (by kernel_rfl)) ⟨A2, cp3, rfl, hI⟩
/-- cenotaph/cenotaphref03.Less -/
theorem c25 (w0 w : World) (Z : Hp) (A : HP) (hI : Inv w0 Z w A) (hT : Tabs Z) (a0 : ByteArray) (a1 : ByteArray) (r : Bool) (h0 : ref03_Less a0 a1 = some r) :
  Calls prog 25 #[.string a0, .string a1] w (fun e w' => e = .returned (.bool r) ∧ Inv w0 Z w' A) := by
 have e4 := calls_intro (R := (fun e w' => e = .returned (.bool r) ∧ Inv w0 Z w' A)) (w := w) (args := [.string a0, .string a1]) (fn := Go.Proofs.Tryd.f25) 47 Go.Proofs.Tryd.func25 (by rfl) Go.Proofs.Tryd.ntmps25 (by kernel_rfl)
 refine e4 ?_
 clear e4
 unfold ref03_Less at h0
 refine cQ ?_
 refine cR [0] (by kernel_rfl) ?_
 refine oP (r := []) [0] (S' := [(0, .string a0), (1, .string a1)]) (by kernel_rfl) ?_
 refine oD ?_
 refine qT ?_
 refine cQ ?_
 refine cR [0, 1, 2] (by kernel_rfl) ?_
 refine oP (r := [1, 2]) [0] (S' := [(1, .string a1), (8, .string a0)]) (by kernel_rfl) ?_
 obtain ⟨y2, hc1, h0⟩ := bindS h0
 try dsimp only at h0
 refine oC (Does.call (d := some 9) (n := 43) (vs := [.string a0]) (by kernel_rfl) en43 (c43 w0 w _ _ hI hT a0 _ hc1) ?_)
 rintro e w ⟨A3, cp4, rfl, hI⟩
 refine ⟨_, rfl, ?_⟩
 refine oP (r := []) [2] (S' := [(1, .string a1), (5, .slice A3 y2.length cp4)]) (by kernel_rfl) ?_
 refine oD ?_
 refine qT ?_
 refine cQ ?_
 refine cR [0, 1, 2] (by kernel_rfl) ?_
 refine oP (r := [1, 2]) [0] (S' := [(5, .slice A3 y2.length cp4), (10, .string a1)]) (by kernel_rfl) ?_
 obtain ⟨y6, hc5, h0⟩ := bindS h0
 try dsimp only at h0
 refine oC (Does.call (d := some 11) (n := 43) (vs := [.string a1]) (by kernel_rfl) en43 (c43 w0 w _ _ hI hT a1 _ hc5) ?_)
 rintro e w ⟨A7, cp8, rfl, hI⟩
 refine ⟨_, rfl, ?_⟩
 refine oP (r := []) [2] (S' := [(5, .slice A3 y2.length cp4), (6, .slice A7 y6.length cp8)]) (by kernel_rfl) ?_
 refine oD ?_
 refine qT ?_
 refine cQ ?_
 refine cQ ?_
 refine cR [0] (by kernel_rfl) ?_
 refine oP (r := []) [0] (S' := [(5, .slice A3 y2.length cp4), (6, .slice A7 y6.length cp8), (7, iv 0)]) (by kernel_rfl) ?_
 refine oD ?_
 refine qT ?_
 obtain ⟨r1, h1, h0⟩ := bindS h0
 refine CodT.meet1 (fun a w => .inr () = r1 ∧ Fr 47 [(5, .slice A3 y2.length cp4), (6, .slice A7 y6.length cp8)] a ∧ Inv w0 Z w (star (ownS 3 (cI .i64) 1 A7 cp8 y6) (star (ownS 3 (cI .i64) 1 A3 cp4 y2) A))) ?_ ?_
 ·
  refine CodT.block ?_
  refine (fun a ha => wp_loopN (fun k a w => ∃ (x9 : Int), ref03_Less.l0 y2 y6 k x9 = some r1 ∧ Fr 47 [(5, .slice A3 y2.length cp4), (6, .slice A7 y6.length cp8), (7, iv x9)] a ∧ Inv w0 Z w (star (ownS 3 (cI .i64) 1 A7 cp8 y6) (star (ownS 3 (cI .i64) 1 A3 cp4 y2) A))) ?_ FU a w ⟨0, h1, ha.keep [5, 6, 7] (by kernel_rfl), hI⟩)
  clear h1 hI
  rintro k a w ⟨x9, h1, ha, hI⟩
  rcases k with _ | k
  ·
   cases h1
  simp only [ref03_Less.l0] at h1
  refine CodT.of ?_ ha
  refine cQ ?_
  obtain ⟨r2, h2, h1⟩ := bindS h1
  refine CodT.meet (fun a w => ∃ (x10 : Bool), x10 = r2 ∧ Fr 47 [(5, .slice A3 y2.length cp4), (6, .slice A7 y6.length cp8), (7, iv x9), (21, .bool x10)] a ∧ Inv w0 Z w (star (ownS 3 (cI .i64) 1 A7 cp8 y6) (star (ownS 3 (cI .i64) 1 A3 cp4 y2) A))) ?_ ?_
  ·
   refine cR [0, 1, 2, 3, 4, 5, 6, 7, 8, 9] (by kernel_rfl) ?_
   refine oP (r := [5, 6, 7, 8, 9]) [0, 1, 2, 3, 4] (S' := [(5, .slice A3 y2.length cp4), (6, .slice A7 y6.length cp8), (7, iv x9), (16, .bool (decide (x9 < (y2.length : Int))))]) (by kernel_rfl) ?_
   by_cases hb11 : (decide (x9 < (y2.length : Int))) = true
   ·
    rw [if_pos hb11] at h2
    refine oK [5, 6, 7, 16] (S' := [(5, .slice A3 y2.length cp4), (6, .slice A7 y6.length cp8), (7, iv x9), (16, .bool true)]) (by (try simp only [hb11]); kernel_rfl) ?_
    refine oP (r := []) [5, 6, 7, 8, 9] (S' := [(5, .slice A3 y2.length cp4), (6, .slice A7 y6.length cp8), (7, iv x9), (21, .bool (decide (x9 < (y6.length : Int))))]) (by kernel_rfl) ?_
    refine oD ?_
    have e := someS h2
    subst e
    exact Qn.thenJ fun a ha => ⟨decide (x9 < (y6.length : Int)), rfl, ha.keep [5, 6, 7, 21] (by kernel_rfl), hI⟩
   ·
    rw [if_neg hb11] at h2
    have hb11 : (decide (x9 < (y2.length : Int))) = false := by simpa using hb11
    refine oK [5, 6, 7, 16] (S' := [(5, .slice A3 y2.length cp4), (6, .slice A7 y6.length cp8), (7, iv x9), (16, .bool false)]) (by (try simp only [hb11]); kernel_rfl) ?_
    refine oP (r := []) [5, 6, 7, 8, 9] (S' := [(5, .slice A3 y2.length cp4), (6, .slice A7 y6.length cp8), (7, iv x9), (21, .bool false)]) (by kernel_rfl) ?_
    refine oD ?_
    have e := someS h2
    subst e
    exact Qn.thenJ fun a ha => ⟨false, rfl, ha.keep [5, 6, 7, 21] (by kernel_rfl), hI⟩
  ·
   rintro a w ⟨x10, rfl, ha, hI⟩
   try dsimp only at h1
   refine CodT.of ?_ ha
   by_cases hb12 : x10 = true
   ·
    rw [if_pos hb12] at h1
    refine CodT.yes' (b := x10) (by kernel_rfl) hb12 ?_
    refine CodT.skip ?_
    refine qT ?_
    refine cQ ?_
    refine CodT.block ?_
    refine cQ ?_
    refine CodT.drawI (n := 9) [] (by kernel_rfl) (by kernel_rfl) hI ?_
    intro w hI
    refine GmT.p' 0 24 (.slice A3 y2.length cp4) (by kernel_rfl) (by kernel_rfl) ?_
    refine GmT.p' 1 25 (iv x9) (by kernel_rfl) (by kernel_rfl) ?_
    refine GmT.p' 4 28 (.slice A7 y6.length cp8) (by kernel_rfl) (by kernel_rfl) ?_
    refine GmT.p' 5 29 (iv x9) (by kernel_rfl) (by kernel_rfl) ?_
    obtain ⟨hg13, h1⟩ := guardS h1
    obtain ⟨g14, hA15, hr16, hl17⟩ := ownS_get (hI.mono (pick2 _ _ _)) hg13.1 hg13.2
    refine GmT.r (i := 2) 2 (by kernel_rfl) (by kernel_rfl) (Yl.indexSlice (d := 26) (T := 32) (cc := cp4) (k := .i64) (j := x9) (g := g14) (o := 0) (by kernel_rfl) Go.Proofs.Tryd.underlying32 ty3 hA15 hg13.1 hg13.2) hI ?_
    refine GmT.r (i := 3) 2 (by kernel_rfl) (by kernel_rfl) (Yl.load (d := 27) (T := 3) (v := iv (gt y2 x9)) (by kernel_rfl) (ldR ty3 (v := iv (gt y2 x9)) 0 (fun w hC => hr16 w0 w _ (hC.mono (pick2 _ _ _))) (by kernel_rfl))) hI ?_
    obtain ⟨hg18, h1⟩ := guardS h1
    obtain ⟨g19, hA20, hr21, hl22⟩ := ownS_get hI hg18.1 hg18.2
    refine GmT.r (i := 6) 2 (by kernel_rfl) (by kernel_rfl) (Yl.indexSlice (d := 30) (T := 32) (cc := cp8) (k := .i64) (j := x9) (g := g19) (o := 0) (by kernel_rfl) Go.Proofs.Tryd.underlying32 ty3 hA20 hg18.1 hg18.2) hI ?_
    refine GmT.r (i := 7) 2 (by kernel_rfl) (by kernel_rfl) (Yl.load (d := 31) (T := 3) (v := iv (gt y6 x9)) (by kernel_rfl) (ldR ty3 (v := iv (gt y6 x9)) 0 (fun w hC => hr21 w0 w _ hC) (by kernel_rfl))) hI ?_
    refine GmT.p' 8 32 (.bool ((gt y2 x9) != (gt y6 x9))) (by kernel_rfl) (by kernel_rfl) ?_
    refine GmT.done (by kernel_rfl) ?_
    refine qT ?_
    by_cases hb23 : ((gt y2 x9) != (gt y6 x9)) = true
    ·
     rw [if_pos hb23] at h1
     refine CodT.yes' (b := (gt y2 x9) != (gt y6 x9)) (by kernel_rfl) hb23 ?_
     refine cQ ?_
     refine CodT.drawI (n := 10) [] (by kernel_rfl) (by kernel_rfl) hI ?_
     intro w hI
     refine GmT.p' 0 33 (.slice A3 y2.length cp4) (by kernel_rfl) (by kernel_rfl) ?_
     refine GmT.p' 1 34 (iv x9) (by kernel_rfl) (by kernel_rfl) ?_
     refine GmT.p' 4 37 (.slice A7 y6.length cp8) (by kernel_rfl) (by kernel_rfl) ?_
     refine GmT.p' 5 38 (iv x9) (by kernel_rfl) (by kernel_rfl) ?_
     obtain ⟨hg24, h1⟩ := guardS h1
     obtain ⟨g25, hA26, hr27, hl28⟩ := ownS_get (hI.mono (pick2 _ _ _)) hg24.1 hg24.2
     refine GmT.r (i := 2) 2 (by kernel_rfl) (by kernel_rfl) (Yl.indexSlice (d := 35) (T := 32) (cc := cp4) (k := .i64) (j := x9) (g := g25) (o := 0) (by kernel_rfl) Go.Proofs.Tryd.underlying32 ty3 hA26 hg24.1 hg24.2) hI ?_
     refine GmT.r (i := 3) 2 (by kernel_rfl) (by kernel_rfl) (Yl.load (d := 36) (T := 3) (v := iv (gt y2 x9)) (by kernel_rfl) (ldR ty3 (v := iv (gt y2 x9)) 0 (fun w hC => hr27 w0 w _ (hC.mono (pick2 _ _ _))) (by kernel_rfl))) hI ?_
     obtain ⟨hg29, h1⟩ := guardS h1
     obtain ⟨g30, hA31, hr32, hl33⟩ := ownS_get hI hg29.1 hg29.2
     refine GmT.r (i := 6) 2 (by kernel_rfl) (by kernel_rfl) (Yl.indexSlice (d := 39) (T := 32) (cc := cp8) (k := .i64) (j := x9) (g := g30) (o := 0) (by kernel_rfl) Go.Proofs.Tryd.underlying32 ty3 hA31 hg29.1 hg29.2) hI ?_
     refine GmT.r (i := 7) 2 (by kernel_rfl) (by kernel_rfl) (Yl.load (d := 40) (T := 3) (v := iv (gt y6 x9)) (by kernel_rfl) (ldR ty3 (v := iv (gt y6 x9)) 0 (fun w hC => hr32 w0 w _ hC) (by kernel_rfl))) hI ?_
     refine GmT.p' 8 41 (.bool (decide ((gt y2 x9) < (gt y6 x9)))) (by kernel_rfl) (by kernel_rfl) ?_
     refine GmT.p' 9 4 (.bool (decide ((gt y2 x9) < (gt y6 x9)))) (by kernel_rfl) (by kernel_rfl) ?_
     refine GmT.done (by kernel_rfl) ?_
     refine qT ?_
     refine CodT.ret ?_
     refine Qn.block_ret ?_
     refine Qn.ret_then ?_
     refine Qn.ret_then ?_
     refine Qn.block_ret ?_
     refine Qn.ret_then ?_
     refine Qn.ret_then ?_
     have hI := hI.drop
     have hI := hI.drop
     have e := someS h1
     subst e
     try dsimp only at h0
     have e := someS h0
     subst e
     refine qK [4] (S' := [(4, .bool (decide ((gt y2 x9) < (gt y6 x9))))]) (by kernel_rfl) ?_
     exact post_ret (v := .bool (decide ((gt y2 x9) < (gt y6 x9)))) (fun a ha => RunRes.run (vs := [.bool (decide ((gt y2 x9) < (gt y6 x9)))]) (.tmp (t := 4) (by kernel_rfl) .nil) ha (by kernel_rfl)) ⟨rfl, hI⟩
    ·
     rw [if_neg hb23] at h1
     refine CodT.no' (b := (gt y2 x9) != (gt y6 x9)) (by kernel_rfl) (by simpa using hb23) ?_
     refine CodT.skip ?_
     refine Qn.block_normal ?_
     refine qT ?_
     refine cR [0, 1, 2] (by kernel_rfl) ?_
     refine oP (r := []) [0, 1, 2] (S' := [(5, .slice A3 y2.length cp4), (6, .slice A7 y6.length cp8), (7, iv (wi64 (x9 + 1)))]) (by kernel_rfl) ?_
     refine oD ?_
     exact Qn.thenJ fun a ha => ⟨k, Nat.lt_succ_self k, wi64 (x9 + 1), h1, ha.keep [5, 6, 7] (by kernel_rfl), hI⟩
   ·
    rw [if_neg hb12] at h1
    refine CodT.no' (b := x10) (by kernel_rfl) (by simpa using hb12) ?_
    refine CodT.exit ?_
    refine Qn.exit_then ?_
    refine Qn.exit_then ?_
    refine Qn.block ?_
    have e := someS h1
    subst e
    exact Qn.thenJ fun a ha => ⟨rfl, ha.keep [5, 6] (by kernel_rfl), hI⟩
 ·
  rintro a w ⟨rfl, ha, hI⟩
  try dsimp only at h0
  refine Qn.of ?_ ha
  refine qT ?_
  refine cQ ?_
  refine cR [0, 1, 2, 3, 4, 5] (by kernel_rfl) ?_
  refine oP (r := []) [0, 1, 2, 3, 4, 5] (S' := [(4, .bool (decide ((y2.length : Int) < (y6.length : Int))))]) (by kernel_rfl) ?_
  refine oD ?_
  refine qT ?_
  refine CodT.ret ?_
  have hI := hI.drop
  have hI := hI.drop
  have e := someS h0
  subst e
  refine qK [4] (S' := [(4, .bool (decide ((y2.length : Int) < (y6.length : Int))))]) (by kernel_rfl) ?_
  exact post_ret (v := .bool (decide ((y2.length : Int) < (y6.length : Int)))) (fun a ha => RunRes.run (vs := [.bool (decide ((y2.length : Int) < (y6.length : Int)))]) (.tmp (t := 4) (by kernel_rfl) .nil) ha (by kernel_rfl)) ⟨rfl, hI⟩
/-- cenotaph/file.numbered -/
theorem c64 (w0 w : World) (Z : Hp) (A : HP) (hI : Inv w0 Z w A) (hT : Tabs Z) (a0 : Int) (r : Bool) (h0 : file_numbered a0 = some r) :
  Calls prog 64 #[iv a0] w (fun e w' => e = .returned (.bool r) ∧ Inv w0 Z w' A) := by
 have e4 := calls_intro (R := (fun e w' => e = .returned (.bool r) ∧ Inv w0 Z w' A)) (w := w) (args := [iv a0]) (fn := Go.Proofs.Tryd.f64) 9 Go.Proofs.Tryd.func64 (by rfl) Go.Proofs.Tryd.ntmps64 (by kernel_rfl)
 refine e4 ?_
 clear e4
 unfold file_numbered at h0
 refine cQ ?_
 refine cR [0] (by kernel_rfl) ?_
 refine oP (r := []) [0] (S' := [(0, iv a0)]) (by kernel_rfl) ?_
 refine oD ?_
 refine qT ?_
 obtain ⟨r1, h1, h0⟩ := bindS h0
 refine CodT.meet (fun a w => ∃ (x1 : Bool), x1 = r1 ∧ Fr 9 [(2, .bool x1)] a ∧ Inv w0 Z w A) ?_ ?_
 ·
  refine cR [0, 1, 2, 3, 4, 5, 6] (by kernel_rfl) ?_
  refine oP (r := [3, 4, 5, 6]) [0, 1, 2] (S' := [(0, iv a0), (5, .bool (decide (a0 ≥ 1)))]) (by kernel_rfl) ?_
  by_cases hb2 : (decide (a0 ≥ 1)) = true
  ·
   rw [if_pos hb2] at h1
   refine oK [0, 5] (S' := [(0, iv a0), (5, .bool true)]) (by (try simp only [hb2]); kernel_rfl) ?_
   refine oP (r := []) [3, 4, 5, 6] (S' := [(2, .bool (decide (a0 ≤ 1099511627776)))]) (by kernel_rfl) ?_
   refine oD ?_
   have e := someS h1
   subst e
   exact Qn.thenJ fun a ha => ⟨decide (a0 ≤ 1099511627776), rfl, ha.keep [2] (by kernel_rfl), hI⟩
  ·
   rw [if_neg hb2] at h1
   have hb2 : (decide (a0 ≥ 1)) = false := by simpa using hb2
   refine oK [0, 5] (S' := [(0, iv a0), (5, .bool false)]) (by (try simp only [hb2]); kernel_rfl) ?_
   refine oP (r := []) [3, 4, 5, 6] (S' := [(2, .bool false)]) (by kernel_rfl) ?_
   refine oD ?_
   have e := someS h1
   subst e
   exact Qn.thenJ fun a ha => ⟨false, rfl, ha.keep [2] (by kernel_rfl), hI⟩
 ·
  rintro a w ⟨x1, rfl, ha, hI⟩
  try dsimp only at h0
  refine CodT.of ?_ ha
  refine CodT.ret ?_
  have e := someS h0
  subst e
  refine qK [2] (S' := [(2, .bool x1)]) (by kernel_rfl) ?_
  exact post_ret (v := .bool x1) (fun a ha => RunRes.run (vs := [.bool x1]) (.tmp (t := 2) (by kernel_rfl) .nil) ha (by kernel_rfl)) ⟨rfl, hI⟩
/-- cenotaph/file.New -/
theorem c44 (w0 w : World) (Z : Hp) (A : HP) (hI : Inv w0 Z w A) (hT : Tabs Z) (a0 : Int) (a1 : ByteArray) (r : (Int × ByteArray × ByteArray × Bool × Int × (List ByteArray) × Int)) (h0 : file_New a0 a1 = some r) :
  Calls prog 44 #[iv a0, .string a1] w (fun e w' => ∃ (A1 : Option Addr) (c1 : Nat), e = .returned (.tuple #[.agg ([iv r.1, .string r.2.1, .string r.2.2.1, .bool r.2.2.2.1, iv r.2.2.2.2.1, .slice A1 r.2.2.2.2.2.1.length c1] : LV).toArray, iv r.2.2.2.2.2.2]) ∧ Inv w0 Z w' (star (ownS 9 cS 1 A1 c1 r.2.2.2.2.2.1) A)) := by
 have e4 := calls_intro (R := (fun e w' => ∃ (A1 : Option Addr) (c1 : Nat), e = .returned (.tuple #[.agg ([iv r.1, .string r.2.1, .string r.2.2.1, .bool r.2.2.2.1, iv r.2.2.2.2.1, .slice A1 r.2.2.2.2.2.1.length c1] : LV).toArray, iv r.2.2.2.2.2.2]) ∧ Inv w0 Z w' (star (ownS 9 cS 1 A1 c1 r.2.2.2.2.2.1) A))) (w := w) (args := [iv a0, .string a1]) (fn := Go.Proofs.Tryd.f44) 19 Go.Proofs.Tryd.func44 (by rfl) Go.Proofs.Tryd.ntmps44 (by kernel_rfl)
 refine e4 ?_
 clear e4
 unfold file_New at h0
 refine cQ ?_
 refine cR [0, 1] (by kernel_rfl) ?_
 refine oC (Does.allocL (d := 4) (T := 27) ((([iv 0, .string (⟨#[]⟩ : ByteArray), .string (⟨#[]⟩ : ByteArray), .bool false, iv 0, .slice none 0 0] : LV))) (by kernel_rfl) ty27 hI (by kernel_rfl) ?_)
 intro b1 w hI
 refine oP (r := []) [1] (S' := [(0, iv a0), (1, .string a1), (4, pb b1)]) (by kernel_rfl) ?_
 refine oD ?_
 refine qT ?_
 refine cQ ?_
 refine CodT.block ?_
 refine cQ ?_
 refine cR [0, 1, 2, 3] (by kernel_rfl) ?_
 refine oP (r := [1, 2, 3]) [0] (S' := [(0, iv a0), (1, .string a1), (4, pb b1), (7, .string a1)]) (by kernel_rfl) ?_
 obtain ⟨y3, hc2, h0⟩ := bindS h0
 try dsimp only at h0
 refine oC (Does.call (d := some 8) (n := 34) (vs := [.string a1]) (by kernel_rfl) en34 (c34 w0 w _ _ hI hT a1 _ hc2) ?_)
 rintro e w ⟨rfl, hI⟩
 refine ⟨_, rfl, ?_⟩
 refine oP (r := []) [2, 3] (S' := [(0, iv a0), (1, .string a1), (4, pb b1), (6, .bool (!y3))]) (by kernel_rfl) ?_
 refine oD ?_
 refine qT ?_
 by_cases hb4 : (!y3) = true
 ·
  rw [if_pos hb4] at h0
  refine CodT.yes' (b := !y3) (by kernel_rfl) hb4 ?_
  refine cQ ?_
  refine cR [0, 1, 2] (by kernel_rfl) ?_
  refine oP (r := [1, 2]) [0] (S' := [(4, pb b1), (10, .agg ((([iv 0, .string (⟨#[]⟩ : ByteArray), .string (⟨#[]⟩ : ByteArray), .bool false, iv 0, .slice none 0 0] : LV))).toArray)]) (by kernel_rfl) ?_
  refine oC (dS (T := 27) (b := b1) (o := 0) (v := .agg ((([iv 0, .string (⟨#[]⟩ : ByteArray), .string (⟨#[]⟩ : ByteArray), .bool false, iv 0, .slice none 0 0] : LV))).toArray) (l := (([iv 0, .string (⟨#[]⟩ : ByteArray), .string (⟨#[]⟩ : ByteArray), .bool false, iv 0, .slice none 0 0] : LV))) (vs := (([iv 0, .string (⟨#[]⟩ : ByteArray), .string (⟨#[]⟩ : ByteArray), .bool false, iv 0, .slice none 0 0] : LV))) (L' := (([iv 0, .string (⟨#[]⟩ : ByteArray), .string (⟨#[]⟩ : ByteArray), .bool false, iv 0, .slice none 0 0] : LV))) (by kernel_rfl) ty27 hI (by kernel_rfl) (by kernel_rfl) (by kernel_rfl) (by kernel_rfl) (by kernel_rfl) ?_)
  intro w hI
  refine oP (r := []) [2] (S' := [(4, pb b1), (5, iv 2)]) (by kernel_rfl) ?_
  refine oD ?_
  refine qT ?_
  refine CodT.ret ?_
  refine Qn.block_ret ?_
  refine Qn.ret_then ?_
  have hL5 := (ldBN ty27 (l := (([iv 0, .string (⟨#[]⟩ : ByteArray), .string (⟨#[]⟩ : ByteArray), .bool false, iv 0, .slice none 0 0] : LV))) (o := 0) (cs := (([iv 0, .string (⟨#[]⟩ : ByteArray), .string (⟨#[]⟩ : ByteArray), .bool false, iv 0, .slice none 0 0] : LV))) (ent_refl _) (by kernel_rfl) (whole _ _ (by kernel_rfl))) w hI
  have hI := ownS_nil (α := ByteArray) hI 9 cS 1
  have hI := hI.mono (pick2 _ _ _)
  have hI := hI.drop
  have e := someS h0
  subst e
  refine qK [4, 5] (S' := [(4, pb b1), (5, iv 2)]) (by kernel_rfl) ?_
  exact post_ret (v := .tuple #[.agg ((([iv 0, .string (⟨#[]⟩ : ByteArray), .string (⟨#[]⟩ : ByteArray), .bool false, iv 0, .slice none 0 0] : LV))).toArray, iv 2]) (fun a ha => RunRes.run (vs := [.agg ((([iv 0, .string (⟨#[]⟩ : ByteArray), .string (⟨#[]⟩ : ByteArray), .bool false, iv 0, .slice none 0 0] : LV))).toArray, iv 2]) (.cell (t := 4) (T := 27) (ad := ⟨b1, 0, none⟩) (by kernel_rfl) hL5 (.tmp (t := 5) (by kernel_rfl) .nil)) ha (by kernel_rfl)) ⟨none, 0, rfl, hI⟩
 ·
  rw [if_neg hb4] at h0
  refine CodT.no' (b := !y3) (by kernel_rfl) (by simpa using hb4) ?_
  refine cQ ?_
  refine cR [0, 1, 2, 3] (by kernel_rfl) ?_
  refine oP (r := [1, 2, 3]) [0] (S' := [(0, iv a0), (1, .string a1), (4, pb b1), (12, iv a0)]) (by kernel_rfl) ?_
  obtain ⟨y7, hc6, h0⟩ := bindS h0
  try dsimp only at h0
  refine oC (Does.call (d := some 13) (n := 64) (vs := [iv a0]) (by kernel_rfl) en64 (c64 w0 w _ _ hI hT a0 _ hc6) ?_)
  rintro e w ⟨rfl, hI⟩
  refine ⟨_, rfl, ?_⟩
  refine oP (r := []) [2, 3] (S' := [(0, iv a0), (1, .string a1), (4, pb b1), (11, .bool (!y7))]) (by kernel_rfl) ?_
  refine oD ?_
  refine qT ?_
  by_cases hb8 : (!y7) = true
  ·
   rw [if_pos hb8] at h0
   refine CodT.yes' (b := !y7) (by kernel_rfl) hb8 ?_
   refine cQ ?_
   refine cR [0, 1, 2] (by kernel_rfl) ?_
   refine oP (r := [1, 2]) [0] (S' := [(4, pb b1), (15, .agg ((([iv 0, .string (⟨#[]⟩ : ByteArray), .string (⟨#[]⟩ : ByteArray), .bool false, iv 0, .slice none 0 0] : LV))).toArray)]) (by kernel_rfl) ?_
   refine oC (dS (T := 27) (b := b1) (o := 0) (v := .agg ((([iv 0, .string (⟨#[]⟩ : ByteArray), .string (⟨#[]⟩ : ByteArray), .bool false, iv 0, .slice none 0 0] : LV))).toArray) (l := (([iv 0, .string (⟨#[]⟩ : ByteArray), .string (⟨#[]⟩ : ByteArray), .bool false, iv 0, .slice none 0 0] : LV))) (vs := (([iv 0, .string (⟨#[]⟩ : ByteArray), .string (⟨#[]⟩ : ByteArray), .bool false, iv 0, .slice none 0 0] : LV))) (L' := (([iv 0, .string (⟨#[]⟩ : ByteArray), .string (⟨#[]⟩ : ByteArray), .bool false, iv 0, .slice none 0 0] : LV))) (by kernel_rfl) ty27 hI (by kernel_rfl) (by kernel_rfl) (by kernel_rfl) (by kernel_rfl) (by kernel_rfl) ?_)
   intro w hI
   refine oP (r := []) [2] (S' := [(4, pb b1), (5, iv 1)]) (by kernel_rfl) ?_
   refine oD ?_
   refine qT ?_
   refine CodT.ret ?_
   refine Qn.block_ret ?_
   refine Qn.ret_then ?_
   have hL9 := (ldBN ty27 (l := (([iv 0, .string (⟨#[]⟩ : ByteArray), .string (⟨#[]⟩ : ByteArray), .bool false, iv 0, .slice none 0 0] : LV))) (o := 0) (cs := (([iv 0, .string (⟨#[]⟩ : ByteArray), .string (⟨#[]⟩ : ByteArray), .bool false, iv 0, .slice none 0 0] : LV))) (ent_refl _) (by kernel_rfl) (whole _ _ (by kernel_rfl))) w hI
   have hI := ownS_nil (α := ByteArray) hI 9 cS 1
   have hI := hI.mono (pick2 _ _ _)
   have hI := hI.drop
   have e := someS h0
   subst e
   refine qK [4, 5] (S' := [(4, pb b1), (5, iv 1)]) (by kernel_rfl) ?_
   exact post_ret (v := .tuple #[.agg ((([iv 0, .string (⟨#[]⟩ : ByteArray), .string (⟨#[]⟩ : ByteArray), .bool false, iv 0, .slice none 0 0] : LV))).toArray, iv 1]) (fun a ha => RunRes.run (vs := [.agg ((([iv 0, .string (⟨#[]⟩ : ByteArray), .string (⟨#[]⟩ : ByteArray), .bool false, iv 0, .slice none 0 0] : LV))).toArray, iv 1]) (.cell (t := 4) (T := 27) (ad := ⟨b1, 0, none⟩) (by kernel_rfl) hL9 (.tmp (t := 5) (by kernel_rfl) .nil)) ha (by kernel_rfl)) ⟨none, 0, rfl, hI⟩
  ·
   rw [if_neg hb8] at h0
   refine CodT.no' (b := !y7) (by kernel_rfl) (by simpa using hb8) ?_
   refine CodT.skip ?_
   refine Qn.block_normal ?_
   refine qT ?_
   refine cQ ?_
   refine cR [0, 1, 2, 3, 4] (by kernel_rfl) ?_
   refine oP (r := [3, 4]) [0, 1, 2] (S' := [(4, pb b1), (18, .agg ((([iv a0, .string a1, .string (⟨#[]⟩ : ByteArray), .bool false, iv 0, .slice none 0 0] : LV))).toArray)]) (by kernel_rfl) ?_
   refine oC (dS (T := 27) (b := b1) (o := 0) (v := .agg ((([iv a0, .string a1, .string (⟨#[]⟩ : ByteArray), .bool false, iv 0, .slice none 0 0] : LV))).toArray) (l := (([iv 0, .string (⟨#[]⟩ : ByteArray), .string (⟨#[]⟩ : ByteArray), .bool false, iv 0, .slice none 0 0] : LV))) (vs := (([iv a0, .string a1, .string (⟨#[]⟩ : ByteArray), .bool false, iv 0, .slice none 0 0] : LV))) (L' := (([iv a0, .string a1, .string (⟨#[]⟩ : ByteArray), .bool false, iv 0, .slice none 0 0] : LV))) (by kernel_rfl) ty27 hI (by kernel_rfl) (by kernel_rfl) (by kernel_rfl) (by kernel_rfl) (by kernel_rfl) ?_)
   intro w hI
   refine oP (r := []) [4] (S' := [(4, pb b1), (5, iv 0)]) (by kernel_rfl) ?_
   refine oD ?_
   refine qT ?_
   refine CodT.ret ?_
   have hL10 := (ldBN ty27 (l := (([iv a0, .string a1, .string (⟨#[]⟩ : ByteArray), .bool false, iv 0, .slice none 0 0] : LV))) (o := 0) (cs := (([iv a0, .string a1, .string (⟨#[]⟩ : ByteArray), .bool false, iv 0, .slice none 0 0] : LV))) (ent_refl _) (by kernel_rfl) (whole _ _ (by kernel_rfl))) w hI
   have hI := ownS_nil (α := ByteArray) hI 9 cS 1
   have hI := hI.mono (pick2 _ _ _)
   have hI := hI.drop
   have e := someS h0
   subst e
   refine qK [4, 5] (S' := [(4, pb b1), (5, iv 0)]) (by kernel_rfl) ?_
   exact post_ret (v := .tuple #[.agg ((([iv a0, .string a1, .string (⟨#[]⟩ : ByteArray), .bool false, iv 0, .slice none 0 0] : LV))).toArray, iv 0]) (fun a ha => RunRes.run (vs := [.agg ((([iv a0, .string a1, .string (⟨#[]⟩ : ByteArray), .bool false, iv 0, .slice none 0 0] : LV))).toArray, iv 0]) (.cell (t := 4) (T := 27) (ad := ⟨b1, 0, none⟩) (by kernel_rfl) hL10 (.tmp (t := 5) (by kernel_rfl) .nil)) ha (by kernel_rfl)) ⟨none, 0, rfl, hI⟩
end Go.Cen
