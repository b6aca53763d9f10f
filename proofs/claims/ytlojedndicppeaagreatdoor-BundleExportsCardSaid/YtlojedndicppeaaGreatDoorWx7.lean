/- That the machine computes these: walks, printed by a program of ours. -/
import Derived.Test.YtlojedndicppeaaGreatDoorPx
import Derived.Test.YtlojedndicppeaaGreatDoorWx6
set_option linter.unusedVariables false
set_option linter.unusedSimpArgs false
namespace Go.Cen
set_option maxRecDepth 100000
set_option maxHeartbeats 4000000
/-- cenotaph/cenotaphref11.Export -/
theorem c19 (w0 w : World) (Z : Hp) (A : HP) (hI : Inv w0 Z w A) (hT : Tabs Z) (A_a0 : Option Addr) (c_a0 : Nat) (a0 : (List ApiEvent)) (hr_a0 : RdS Z c_ApiEvent 37 A_a0 c_a0 a0) (a1 : Int) (a2 : Int) (r : (Int × (List Int) × (List ApiEvent) × Bool)) (h0 : ref11_Export a0 a1 a2 = some r) :
  Calls prog 19 #[.slice A_a0 a0.length c_a0, iv a1, iv a2] w (fun e w' => ∃ (A1 : Option Addr) (c1 : Nat) (Z' : Hp), Z.le Z' ∧ e = .returned (.tuple #[.agg ((([iv r.1] : LV) ++ (q8c r.2.1) ++ ([.slice A1 r.2.2.1.length c1] : LV))).toArray, .bool r.2.2.2]) ∧ r.2.1.length = 32 ∧ RdS Z' c_ApiEvent 37 A1 c1 r.2.2.1 ∧ Inv w0 Z' w' A) := by
 have e4 := calls_intro (R := (fun e w' => ∃ (A1 : Option Addr) (c1 : Nat) (Z' : Hp), Z.le Z' ∧ e = .returned (.tuple #[.agg ((([iv r.1] : LV) ++ (q8c r.2.1) ++ ([.slice A1 r.2.2.1.length c1] : LV))).toArray, .bool r.2.2.2]) ∧ r.2.1.length = 32 ∧ RdS Z' c_ApiEvent 37 A1 c1 r.2.2.1 ∧ Inv w0 Z' w' A)) (w := w) (args := [.slice A_a0 a0.length c_a0, iv a1, iv a2]) (fn := Go.Proofs.Tryz.f19) 45 Go.Proofs.Tryz.func19 (by rfl) Go.Proofs.Tryz.ntmps19 (by kernel_rfl)
 refine e4 ?_
 clear e4
 unfold ref11_Export at h0
 refine cQ (cR [0, 1] ?_)
 refine oC (jA (d := 6) (T := 32) q8b (by kernel_rfl) ty32 hI (by kernel_rfl) ?_)
 intro b1 w hI
 refine oP (r := []) [1] (S' := [(0, .slice A_a0 a0.length c_a0), (1, iv a1), (2, iv a2), (6, pb b1)]) ?_
 refine oD (qT (cQ (cR [0, 1, 2] ?_)))
 refine oP (r := [1, 2]) [0] (S' := [(0, .slice A_a0 a0.length c_a0), (1, iv a1), (2, iv a2), (6, pb b1), (9, .slice A_a0 a0.length c_a0)]) ?_
 obtain ⟨y3, hc2, h0⟩ := bindS h0
 try dsimp only at h0
 refine oC (jC (d := some 10) (n := 48) (vs := [.slice A_a0 a0.length c_a0]) (by kernel_rfl) en48 (c48 w0 w _ _ hI hT A_a0 c_a0 a0 hr_a0 _ hc2) ?_)
 rintro e w ⟨A4, cp5, rfl, hI⟩
 refine ⟨_, rfl, ?_⟩
 refine oP (r := []) [2] (S' := [(0, .slice A_a0 a0.length c_a0), (1, iv a1), (2, iv a2), (6, pb b1), (8, .slice A4 y3.length cp5)]) ?_
 refine oD (qT (cQ ?_))
 obtain ⟨r1, h1, h0⟩ := bindS h0
 refine jM (fun a w => ∃ (x6 : Bool), x6 = r1 ∧ Fr 45 [(0, .slice A_a0 a0.length c_a0), (1, iv a1), (2, iv a2), (6, pb b1), (8, .slice A4 y3.length cp5), (33, .bool x6)] a ∧ Inv w0 Z w (star (pt b1 (.cells q8b.toArray 32 (0, 0))) (star (ownS 23 (cA (Value.int .u8)) 32 A4 cp5 y3) A))) ?_ ?_
 ·
  refine cR [0, 1, 2, 3, 4, 5, 6, 7, 8, 9, 10, 11, 12, 13, 14, 15, 16, 17, 18, 19, 20, 21, 22] ?_
  refine oP (r := [3, 4, 5, 6, 7, 8, 9, 10, 11, 12, 13, 14, 15, 16, 17, 18, 19, 20, 21, 22]) [0, 1, 2] (S' := [(0, .slice A_a0 a0.length c_a0), (1, iv a1), (2, iv a2), (6, pb b1), (8, .slice A4 y3.length cp5), (13, .bool (decide (a1 < 0)))]) ?_
  by_cases hb7 : (decide (a1 < 0)) = true
  ·
   rw [if_pos hb7] at h1
   refine OpsT.keep [0, 1, 2, 6, 8, 13] (S' := [(0, .slice A_a0 a0.length c_a0), (1, iv a1), (2, iv a2), (6, pb b1), (8, .slice A4 y3.length cp5), (13, .bool true)]) (by (try simp only [hb7]); kernel_rfl) ?_
   refine oP (r := []) [3, 4, 5, 6, 7, 8, 9, 10, 11, 12, 13, 14, 15, 16, 17, 18, 19, 20, 21, 22] (S' := [(0, .slice A_a0 a0.length c_a0), (1, iv a1), (2, iv a2), (6, pb b1), (8, .slice A4 y3.length cp5), (33, .bool true)]) ?_
   refine oD ?_
   have hI := hI.mono (pick2 _ _ _)
   have e := someS h1
   subst e
   exact jT fun a ha => ⟨true, rfl, ha.keep [0, 1, 2, 6, 8, 33] (by kernel_rfl), hI⟩
  ·
   rw [if_neg hb7] at h1
   have hb7 : (decide (a1 < 0)) = false := by simpa using hb7
   refine OpsT.keep [0, 1, 2, 6, 8, 13] (S' := [(0, .slice A_a0 a0.length c_a0), (1, iv a1), (2, iv a2), (6, pb b1), (8, .slice A4 y3.length cp5), (13, .bool false)]) (by (try simp only [hb7]); kernel_rfl) ?_
   refine oP (r := [8, 9, 10, 11, 12, 13, 14, 15, 16, 17, 18, 19, 20, 21, 22]) [3, 4, 5, 6, 7] (S' := [(0, .slice A_a0 a0.length c_a0), (1, iv a1), (2, iv a2), (6, pb b1), (8, .slice A4 y3.length cp5), (18, .bool (decide (a2 < a1)))]) ?_
   by_cases hb8 : (decide (a2 < a1)) = true
   ·
    rw [if_pos hb8] at h1
    refine OpsT.keep [0, 1, 2, 6, 8, 18] (S' := [(0, .slice A_a0 a0.length c_a0), (1, iv a1), (2, iv a2), (6, pb b1), (8, .slice A4 y3.length cp5), (18, .bool true)]) (by (try simp only [hb8]); kernel_rfl) ?_
    refine oP (r := []) [8, 9, 10, 11, 12, 13, 14, 15, 16, 17, 18, 19, 20, 21, 22] (S' := [(0, .slice A_a0 a0.length c_a0), (1, iv a1), (2, iv a2), (6, pb b1), (8, .slice A4 y3.length cp5), (33, .bool true)]) ?_
    refine oD ?_
    have hI := hI.mono (pick2 _ _ _)
    have e := someS h1
    subst e
    exact jT fun a ha => ⟨true, rfl, ha.keep [0, 1, 2, 6, 8, 33] (by kernel_rfl), hI⟩
   ·
    rw [if_neg hb8] at h1
    have hb8 : (decide (a2 < a1)) = false := by simpa using hb8
    refine OpsT.keep [0, 1, 2, 6, 8, 18] (S' := [(0, .slice A_a0 a0.length c_a0), (1, iv a1), (2, iv a2), (6, pb b1), (8, .slice A4 y3.length cp5), (18, .bool false)]) (by (try simp only [hb8]); kernel_rfl) ?_
    refine oP (r := [14, 15, 16, 17, 18, 19, 20, 21, 22]) [8, 9, 10, 11, 12, 13] (S' := [(0, .slice A_a0 a0.length c_a0), (1, iv a1), (2, iv a2), (6, pb b1), (8, .slice A4 y3.length cp5), (24, .bool (decide (a2 > (a0.length : Int))))]) ?_
    by_cases hb9 : (decide (a2 > (a0.length : Int))) = true
    ·
     rw [if_pos hb9] at h1
     refine OpsT.keep [0, 1, 2, 6, 8, 24] (S' := [(0, .slice A_a0 a0.length c_a0), (1, iv a1), (2, iv a2), (6, pb b1), (8, .slice A4 y3.length cp5), (24, .bool true)]) (by (try simp only [hb9]); kernel_rfl) ?_
     refine oP (r := []) [14, 15, 16, 17, 18, 19, 20, 21, 22] (S' := [(0, .slice A_a0 a0.length c_a0), (1, iv a1), (2, iv a2), (6, pb b1), (8, .slice A4 y3.length cp5), (33, .bool true)]) ?_
     refine oD ?_
     have hI := hI.mono (pick2 _ _ _)
     have e := someS h1
     subst e
     exact jT fun a ha => ⟨true, rfl, ha.keep [0, 1, 2, 6, 8, 33] (by kernel_rfl), hI⟩
    ·
     rw [if_neg hb9] at h1
     have hb9 : (decide (a2 > (a0.length : Int))) = false := by simpa using hb9
     refine OpsT.keep [0, 1, 2, 6, 8, 24] (S' := [(0, .slice A_a0 a0.length c_a0), (1, iv a1), (2, iv a2), (6, pb b1), (8, .slice A4 y3.length cp5), (24, .bool false)]) (by (try simp only [hb9]); kernel_rfl) ?_
     refine oP (r := [19, 20, 21, 22]) [14, 15, 16, 17, 18] (S' := [(0, .slice A_a0 a0.length c_a0), (1, iv a1), (2, iv a2), (6, pb b1), (8, .slice A4 y3.length cp5), (29, .bool (decide ((a0.length : Int) > 400)))]) ?_
     by_cases hb10 : (decide ((a0.length : Int) > 400)) = true
     ·
      rw [if_pos hb10] at h1
      refine OpsT.keep [0, 1, 2, 6, 8, 29] (S' := [(0, .slice A_a0 a0.length c_a0), (1, iv a1), (2, iv a2), (6, pb b1), (8, .slice A4 y3.length cp5), (29, .bool true)]) (by (try simp only [hb10]); kernel_rfl) ?_
      refine oP (r := []) [19, 20, 21, 22] (S' := [(0, .slice A_a0 a0.length c_a0), (1, iv a1), (2, iv a2), (6, pb b1), (8, .slice A4 y3.length cp5), (33, .bool true)]) ?_
      refine oD ?_
      have hI := hI.mono (pick2 _ _ _)
      have e := someS h1
      subst e
      exact jT fun a ha => ⟨true, rfl, ha.keep [0, 1, 2, 6, 8, 33] (by kernel_rfl), hI⟩
     ·
      rw [if_neg hb10] at h1
      have hb10 : (decide ((a0.length : Int) > 400)) = false := by simpa using hb10
      refine OpsT.keep [0, 1, 2, 6, 8, 29] (S' := [(0, .slice A_a0 a0.length c_a0), (1, iv a1), (2, iv a2), (6, pb b1), (8, .slice A4 y3.length cp5), (29, .bool false)]) (by (try simp only [hb10]); kernel_rfl) ?_
      refine oP (r := []) [19, 20, 21, 22] (S' := [(0, .slice A_a0 a0.length c_a0), (1, iv a1), (2, iv a2), (6, pb b1), (8, .slice A4 y3.length cp5), (33, .bool ((y3.length : Int) == 0))]) ?_
      refine oD ?_
      have hI := hI.mono (pick2 _ _ _)
      have e := someS h1
      subst e
      exact jT fun a ha => ⟨(y3.length : Int) == 0, rfl, ha.keep [0, 1, 2, 6, 8, 33] (by kernel_rfl), hI⟩
 ·
  rintro a w ⟨x6, rfl, ha, hI⟩
  try dsimp only at h0
  refine CodT.of ?_ ha
  by_cases hb11 : x6 = true
  ·
   rw [if_pos hb11] at h0
   refine cY (b := x6) hb11 ?_
   refine cQ (cR [0, 1, 2] ?_)
   refine oP (r := [1, 2]) [0] (S' := [(6, pb b1), (34, .agg q8b.toArray)]) ?_
   refine oC (dS (T := 32) (b := b1) (o := 0) (v := .agg q8b.toArray) (l := q8b) (vs := q8b) (L' := q8b) (by kernel_rfl) ty32 hI (by kernel_rfl) (by simp [cA_length]) (by rw [show List.length _ = 34 from (by simp [cA_length])]; kernel_rfl) (ones_app _ _ (ones_app _ _ (by kernel_rfl) (ones_cA _)) (by kernel_rfl)) (lset_all _ _ (Eq.trans (show List.length _ = 34 from (by simp [cA_length])) (Eq.symm (show List.length _ = 34 from (by simp [cA_length]))))) ?_)
   intro w hI
   refine oP (r := []) [2] (S' := [(6, pb b1), (7, .bool false)]) ?_
   refine oD (qT (jE (jR ?_)))
   have hL12 := (ldBN ty32 (l := q8b) (o := 0) (cs := q8b) (ent_refl _) (by simp [cA_length]) (whole _ _ (by simp [cA_length]))) w hI
   have hI := hI.drop
   have hI := hI.drop
   have e := someS h0
   subst e
   refine qK [6, 7] (S' := [(6, pb b1), (7, .bool false)]) ?_
   exact post_ret (v := .tuple #[.agg q8b.toArray, .bool false]) (fun a ha => jU (vs := [.agg q8b.toArray, .bool false]) (.cell (t := 6) (T := 32) (ad := ⟨b1, 0, none⟩) (by kernel_rfl) hL12 (.tmp (t := 7) (by kernel_rfl) .nil)) ha (by kernel_rfl)) ⟨none, 0, Z, Hp.le_refl _, rfl, (by kernel_rfl), (RdS.nil _ _ _ _ _ (Nat.zero_le _)), hI⟩
  ·
   rw [if_neg hb11] at h0
   refine cN (b := x6) (by simpa using hb11) ?_
   refine jS (qT (cQ ?_))
   refine CodT.drawI (n := 12) [10] (by kernel_rfl) (by kernel_rfl) hI ?_
   intro w hI
   refine gP 0 35 (iv a1) ?_
   refine gP 1 36 (.slice A4 y3.length cp5) ?_
   refine gP 2 37 (iv a1) ?_
   refine gP 5 40 (.slice A_a0 a0.length c_a0) ?_
   refine gP 6 41 (iv a1) ?_
   refine gP 7 42 (iv a2) ?_
   obtain ⟨hg13, h0⟩ := guardS h0
   obtain ⟨g14, hA15, hr16, hl17⟩ := ownS_get (hI.mono (pick2 _ _ _)) hg13.1 hg13.2
   refine gR (i := 3) 2 (Yl.indexSlice (d := 38) (T := 79) (cc := cp5) (k := .i64) (j := a1) (g := g14) (o := 0) (by kernel_rfl) Go.Proofs.Tryz.underlying79 ty23 hA15 hg13.1 hg13.2) hI ?_
   refine gR (i := 4) 2 (jL (d := 39) (T := 23) (v := .agg (q8c (gt y3 a1)).toArray) (by kernel_rfl) (ldRN ty23 (cs := cA (Value.int .u8) (gt y3 a1)) 0 (fun w hC => hr16 w0 w _ (hC.mono (pick2 _ _ _))) ((cA_length _ _).trans ((cA_length _ _).symm.trans hl17)) (whole _ _ ((cA_length _ _).trans ((cA_length _ _).symm.trans hl17))))) hI ?_
   obtain ⟨hg18, h0⟩ := guardS h0
   have hf24 := hr_a0
   have hr21 := RdS.sub hf24 hg18
   obtain ⟨A19, hA22⟩ : ∃ x, subA A_a0 c_a0 a1 37 = x := ⟨_, rfl⟩
   obtain ⟨cp20, hc23⟩ : ∃ x, c_a0 - (a1 : Int).toNat = x := ⟨_, rfl⟩
   rw [hA22, hc23] at hr21
   refine gR (i := 8) 2 (Yl.sub (lo := (some (iv a1))) (hi := (some (iv a2))) (d := 43) (T := 24) (a := a1) (b := a2) (by kernel_rfl) Go.Proofs.Tryz.underlying24 ty50 (.inl ⟨_, rfl⟩) (.inl ⟨_, rfl⟩) hg18 hf24.1 (sub_length _ hg18) hA22 hc23) hI ?_
   refine jO (i := 9) (by kernel_rfl) (jY (Yl.buildB (d := 44) (T := 32) (ps := [(0, iv a1), (1, .agg (q8c (gt y3 a1)).toArray), (2, .slice A19 ((sub a0 a1 a2).length) cp20)]) (cells := ((([iv a1] : LV) ++ (q8c (gt y3 a1)) ++ ([.slice A19 ((sub a0 a1 a2).length) cp20] : LV))).toArray) (by kernel_rfl) ((built_all (places := [(0, 1), (1, 32), (33, 1)]) (lens := [1, 32, 1]) (zs := [([iv 0] : LV), cA (Value.int .u8) q8z, ([.slice none 0 0] : LV)]) (fun _ => by kernel_rfl) (by kernel_rfl) [(0, iv a1, ([iv a1] : LV)), (1, .agg (q8c (gt y3 a1)).toArray, cA (Value.int .u8) (gt y3 a1)), (2, .slice A19 ((sub a0 a1 a2).length) cp20, ([.slice A19 ((sub a0 a1 a2).length) cp20] : LV))] (List.forall_mem_cons.2 ⟨⟨rfl, rfl, rfl⟩, (List.forall_mem_cons.2 ⟨⟨rfl, congrArg some ((cA_length _ _).trans ((cA_length _ _).symm.trans hl17)).symm, congrArg (fun n => some (1, n)) ((cA_length _ _).trans ((cA_length _ _).symm.trans hl17)).symm⟩, (List.forall_mem_cons.2 ⟨⟨rfl, rfl, rfl⟩, (fun _ h => by cases h)⟩)⟩)⟩)).trans (by first | rfl | simp))) hI ?_)
   refine ⟨fun _ h => h, ?_⟩
   refine jO (i := 10) (by kernel_rfl) (dS (T := 32) (b := b1) (o := 0) (v := .agg ((([iv a1] : LV) ++ (q8c (gt y3 a1)) ++ ([.slice A19 ((sub a0 a1 a2).length) cp20] : LV))).toArray) (l := q8b) (vs := (([iv a1] : LV) ++ (q8c (gt y3 a1)) ++ ([.slice A19 ((sub a0 a1 a2).length) cp20] : LV))) (L' := (([iv a1] : LV) ++ (q8c (gt y3 a1)) ++ ([.slice A19 ((sub a0 a1 a2).length) cp20] : LV))) (by kernel_rfl) ty32 hI (by kernel_rfl) (by simp [cA_length, ((cA_length _ _).symm.trans hl17)]) (by rw [show List.length _ = 34 from (by simp [cA_length])]; kernel_rfl) (ones_app _ _ (ones_app _ _ (by kernel_rfl) (ones_cA _)) (by kernel_rfl)) (lset_all _ _ (Eq.trans (show List.length _ = 34 from (by simp [cA_length, ((cA_length _ _).symm.trans hl17)])) (Eq.symm (show List.length _ = 34 from (by simp [cA_length]))))) ?_)
   intro w hI
   refine ⟨fun h => absurd h (by decide), ?_⟩
   refine gP 11 7 (.bool true) ?_
   refine jD (by kernel_rfl) ?_
   refine qT (jE ?_)
   have hL25 := (ldBN ty32 (l := (([iv a1] : LV) ++ (q8c (gt y3 a1)) ++ ([.slice A19 ((sub a0 a1 a2).length) cp20] : LV))) (o := 0) (cs := (([iv a1] : LV) ++ (q8c (gt y3 a1)) ++ ([.slice A19 ((sub a0 a1 a2).length) cp20] : LV))) (ent_refl _) (by simp [cA_length, ((cA_length _ _).symm.trans hl17)]) (whole _ _ (by simp [cA_length, ((cA_length _ _).symm.trans hl17)]))) w hI
   have hI := hI.drop
   have hI := hI.drop
   have e := someS h0
   subst e
   refine qK [6, 7] (S' := [(6, pb b1), (7, .bool true)]) ?_
   exact post_ret (v := .tuple #[.agg ((([iv a1] : LV) ++ (q8c (gt y3 a1)) ++ ([.slice A19 ((sub a0 a1 a2).length) cp20] : LV))).toArray, .bool true]) (fun a ha => jU (vs := [.agg ((([iv a1] : LV) ++ (q8c (gt y3 a1)) ++ ([.slice A19 ((sub a0 a1 a2).length) cp20] : LV))).toArray, .bool true]) (.cell (t := 6) (T := 32) (ad := ⟨b1, 0, none⟩) (by kernel_rfl) hL25 (.tmp (t := 7) (by kernel_rfl) .nil)) ha (by kernel_rfl)) ⟨A19, cp20, Z, Hp.le_refl _, rfl, ((cA_length _ _).symm.trans hl17), hr21, hI⟩
end Go.Cen
