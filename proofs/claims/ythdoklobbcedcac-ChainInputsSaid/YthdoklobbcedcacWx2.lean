/- That the machine computes these: walks, printed by a program of ours. -/
import Derived.Test.YthdoklobbcedcacPx
import Derived.Test.YthdoklobbcedcacWx1
set_option linter.unusedVariables false
set_option linter.unusedSimpArgs false
namespace Go.Cen
set_option maxRecDepth 100000
set_option maxHeartbeats 4000000
/-- cenotaph/cenotaphlaw06.works -/
theorem c8 (w0 w : World) (Z : Hp) (A : HP) (hI : Inv w0 Z w A)  (r : Bool) (h0 : law06_works = some r) :
  Calls prog 8 #[] w (fun e w' => e = .returned (.bool r) ∧ Inv w0 Z w' A) := by
 have e4 := calls_intro (R := (fun e w' => e = .returned (.bool r) ∧ Inv w0 Z w' A)) (w := w) (args := []) (fn := Go.Proofs.Try.f8) 82 Go.Proofs.Try.func8 (by rfl) Go.Proofs.Try.ntmps8 (by kernel_rfl)
 refine e4 ?_
 clear e4
 unfold law06_works at h0
 refine cQ ?_
 refine cR [0] (by kernel_rfl) ?_
 refine oP (r := []) [0] (S' := []) (by kernel_rfl) ?_
 refine oD ?_
 refine qT ?_
 refine cQ ?_
 refine cR [0, 1, 2] (by kernel_rfl) ?_
 refine oP (r := [1, 2]) [0] (S' := [(10, .agg (c_ApiEvent (ApiEvent.mk 7 0 (⟨#[]⟩ : ByteArray) 1 0 (List.replicate 32 (0 : Int)))).toArray)]) (by kernel_rfl) ?_
 refine oC (Does.allocL (d := 1) (T := 42) (c_ApiEvent (ApiEvent.mk 0 0 (⟨#[]⟩ : ByteArray) 0 0 (List.replicate 32 (0 : Int)))) (by kernel_rfl) ty42 hI (by kernel_rfl) ?_)
 intro b1 w hI
 refine oC (dS (T := 42) (b := b1) (o := 0) (v := .agg (c_ApiEvent (ApiEvent.mk 7 0 (⟨#[]⟩ : ByteArray) 1 0 (List.replicate 32 (0 : Int)))).toArray) (l := c_ApiEvent (ApiEvent.mk 0 0 (⟨#[]⟩ : ByteArray) 0 0 (List.replicate 32 (0 : Int)))) (vs := c_ApiEvent (ApiEvent.mk 7 0 (⟨#[]⟩ : ByteArray) 1 0 (List.replicate 32 (0 : Int)))) (L' := c_ApiEvent (ApiEvent.mk 7 0 (⟨#[]⟩ : ByteArray) 1 0 (List.replicate 32 (0 : Int)))) (by kernel_rfl) ty42 hI (by kernel_rfl) (len_ApiEvent _ (by kernel_rfl)) (by rw [(len_ApiEvent _ (by kernel_rfl))]; kernel_rfl) (ones_app _ _ (by kernel_rfl) (ones_cA _)) (lset_all _ _ (Eq.trans (len_ApiEvent _ (by kernel_rfl)) (Eq.symm (len_ApiEvent _ (by kernel_rfl))))) ?_)
 intro w hI
 refine oD ?_
 refine qT ?_
 obtain ⟨r1, h1, h0⟩ := bindS h0
 refine CodT.meet (fun a w => ∃ (x3 : (List Int)) (x5 : Bool) (b2 : Nat), (x3, x5) = r1 ∧ Fr 82 [(1, pb b1), (2, pb b2), (3, .bool x5)] a ∧ Inv w0 Z w (star (pt b2 (.cells (cA (Value.int .u8) x3).toArray 29 (0, 0))) (star (pt b1 (.cells (c_ApiEvent (ApiEvent.mk 7 0 (⟨#[]⟩ : ByteArray) 1 0 (List.replicate 32 (0 : Int)))).toArray 42 (0, 0))) A)) ∧ x3.length = 32) ?_ ?_
 ·
  refine CodT.drawI (n := 9) [7] (by kernel_rfl) (by kernel_rfl) hI ?_
  intro w hI
  refine GmT.r (i := 1) 2 (by kernel_rfl) (by kernel_rfl) (Yl.load (d := 13) (T := 42) (v := .agg (c_ApiEvent (ApiEvent.mk 7 0 (⟨#[]⟩ : ByteArray) 1 0 (List.replicate 32 (0 : Int)))).toArray) (by kernel_rfl) (ldBN ty42 (l := c_ApiEvent (ApiEvent.mk 7 0 (⟨#[]⟩ : ByteArray) 1 0 (List.replicate 32 (0 : Int)))) (o := 0) (cs := c_ApiEvent (ApiEvent.mk 7 0 (⟨#[]⟩ : ByteArray) 1 0 (List.replicate 32 (0 : Int)))) (ent_refl _) (len_ApiEvent _ (by kernel_rfl)) (whole _ _ (len_ApiEvent _ (by kernel_rfl))))) hI ?_
  refine GmT.several [0, 6] (by kernel_rfl) rfl ?_
  intro i hi; simp only [List.mem_cons, List.not_mem_nil, or_false] at hi; rcases hi with rfl | rfl
  ·
   obtain ⟨y7, hc6, h1⟩ := bindS h1
   try dsimp only at h1
   rw [lst_set]
   refine (Does.call (d := some 12) (n := 14) (vs := []) (by kernel_rfl) en14 (c14 w0 w _ _ hI _ hc6) ?_)
   rintro e w ⟨rfl, hl8, hI⟩
   refine ⟨_, rfl, ?_⟩
   refine ⟨fun _ _ => hI, ?_⟩
   refine GmT.several [2, 6] (by kernel_rfl) rfl ?_
   intro i hi; simp only [List.mem_cons, List.not_mem_nil, or_false] at hi; rcases hi with rfl | rfl
   ·
    obtain ⟨⟨y10, y12⟩, hc9, h1⟩ := bindS h1
    try dsimp only at h1
    rw [lst_set]
    refine (Does.call (d := some 14) (n := 20) (vs := [.agg (cA (Value.int .u8) y7).toArray, .agg (c_ApiEvent (ApiEvent.mk 7 0 (⟨#[]⟩ : ByteArray) 1 0 (List.replicate 32 (0 : Int)))).toArray]) (by kernel_rfl) en20 (c20 w0 w _ _ hI y7 hl8 (ApiEvent.mk 7 0 (⟨#[]⟩ : ByteArray) 1 0 (List.replicate 32 (0 : Int))) (by kernel_rfl) _ hc9) ?_)
    rintro e w ⟨rfl, hl11, hI⟩
    refine ⟨_, rfl, ?_⟩
    refine ⟨fun _ _ => hI, ?_⟩
    refine GmT.p' 3 11 (.tuple #[.agg (cA (Value.int .u8) y10).toArray, .bool y12]) (by kernel_rfl) (by kernel_rfl) ?_
    refine GmT.p' 4 15 (.agg (cA (Value.int .u8) y10).toArray) (by kernel_rfl) (by kernel_rfl) ?_
    refine GmT.p' 5 16 (.bool y12) (by kernel_rfl) (by kernel_rfl) ?_
    refine GmT.o (i := 6) (by kernel_rfl) (Does.allocL (d := 2) (T := 29) (cA (Value.int .u8) (List.replicate 32 (0 : Int))) (by kernel_rfl) ty29 hI (by kernel_rfl) ?_)
    intro b13 w hI
    have hC := hI
    have hC := hC.drop
    refine ⟨fun _ _ => hC, ?_⟩
    refine GmT.o (i := 7) (by kernel_rfl) (Does.storeAll (T := 29) (b := b13) (n := 32) (xs := (List.replicate 32 (0 : Int))) (ys := y10) (by kernel_rfl) ty29 hI (fun _ => rfl) (by kernel_rfl) hl11 ?_)
    intro w hI
    refine ⟨fun h => absurd h (by decide), ?_⟩
    refine GmT.p' 8 3 (.bool y12) (by kernel_rfl) (by kernel_rfl) ?_
    refine GmT.done (by kernel_rfl) ?_
    have e := someS h1
    subst e
    exact Qn.thenJ fun a ha => ⟨y10, y12, b13, rfl, ha.keep [1, 2, 3] (by kernel_rfl), hI, hl11⟩
   ·
    rw [lst_set]
    refine (Does.allocL (d := 2) (T := 29) (cA (Value.int .u8) (List.replicate 32 (0 : Int))) (by kernel_rfl) ty29 hI (by kernel_rfl) ?_)
    intro b14 w hI
    have hC := hI
    have hC := hC.drop
    refine ⟨fun _ _ => hC, ?_⟩
    obtain ⟨⟨y16, y18⟩, hc15, h1⟩ := bindS h1
    try dsimp only at h1
    refine GmT.o (i := 2) (by kernel_rfl) (Does.call (d := some 14) (n := 20) (vs := [.agg (cA (Value.int .u8) y7).toArray, .agg (c_ApiEvent (ApiEvent.mk 7 0 (⟨#[]⟩ : ByteArray) 1 0 (List.replicate 32 (0 : Int)))).toArray]) (by kernel_rfl) en20 (c20 w0 w _ _ hI y7 hl8 (ApiEvent.mk 7 0 (⟨#[]⟩ : ByteArray) 1 0 (List.replicate 32 (0 : Int))) (by kernel_rfl) _ hc15) ?_)
    rintro e w ⟨rfl, hl17, hI⟩
    refine ⟨_, rfl, ?_⟩
    have hC := hI
    have hC := hC.drop
    refine ⟨fun _ _ => hC, ?_⟩
    refine GmT.p' 3 11 (.tuple #[.agg (cA (Value.int .u8) y16).toArray, .bool y18]) (by kernel_rfl) (by kernel_rfl) ?_
    refine GmT.p' 4 15 (.agg (cA (Value.int .u8) y16).toArray) (by kernel_rfl) (by kernel_rfl) ?_
    refine GmT.p' 5 16 (.bool y18) (by kernel_rfl) (by kernel_rfl) ?_
    refine GmT.o (i := 7) (by kernel_rfl) (Does.storeAll (T := 29) (b := b14) (n := 32) (xs := (List.replicate 32 (0 : Int))) (ys := y16) (by kernel_rfl) ty29 hI (fun _ => rfl) (by kernel_rfl) hl17 ?_)
    intro w hI
    refine ⟨fun h => absurd h (by decide), ?_⟩
    refine GmT.p' 8 3 (.bool y18) (by kernel_rfl) (by kernel_rfl) ?_
    refine GmT.done (by kernel_rfl) ?_
    have e := someS h1
    subst e
    exact Qn.thenJ fun a ha => ⟨y16, y18, b14, rfl, ha.keep [1, 2, 3] (by kernel_rfl), hI, hl17⟩
  ·
   rw [lst_set]
   refine (Does.allocL (d := 2) (T := 29) (cA (Value.int .u8) (List.replicate 32 (0 : Int))) (by kernel_rfl) ty29 hI (by kernel_rfl) ?_)
   intro b19 w hI
   have hC := hI
   have hC := hC.drop
   refine ⟨fun _ _ => hC, ?_⟩
   obtain ⟨y21, hc20, h1⟩ := bindS h1
   try dsimp only at h1
   refine GmT.o (i := 0) (by kernel_rfl) (Does.call (d := some 12) (n := 14) (vs := []) (by kernel_rfl) en14 (c14 w0 w _ _ hI _ hc20) ?_)
   rintro e w ⟨rfl, hl22, hI⟩
   refine ⟨_, rfl, ?_⟩
   have hC := hI
   have hC := hC.drop
   refine ⟨fun _ _ => hC, ?_⟩
   obtain ⟨⟨y24, y26⟩, hc23, h1⟩ := bindS h1
   try dsimp only at h1
   refine GmT.o (i := 2) (by kernel_rfl) (Does.call (d := some 14) (n := 20) (vs := [.agg (cA (Value.int .u8) y21).toArray, .agg (c_ApiEvent (ApiEvent.mk 7 0 (⟨#[]⟩ : ByteArray) 1 0 (List.replicate 32 (0 : Int)))).toArray]) (by kernel_rfl) en20 (c20 w0 w _ _ hI y21 hl22 (ApiEvent.mk 7 0 (⟨#[]⟩ : ByteArray) 1 0 (List.replicate 32 (0 : Int))) (by kernel_rfl) _ hc23) ?_)
   rintro e w ⟨rfl, hl25, hI⟩
   refine ⟨_, rfl, ?_⟩
   have hC := hI
   have hC := hC.drop
   refine ⟨fun _ _ => hC, ?_⟩
   refine GmT.p' 3 11 (.tuple #[.agg (cA (Value.int .u8) y24).toArray, .bool y26]) (by kernel_rfl) (by kernel_rfl) ?_
   refine GmT.p' 4 15 (.agg (cA (Value.int .u8) y24).toArray) (by kernel_rfl) (by kernel_rfl) ?_
   refine GmT.p' 5 16 (.bool y26) (by kernel_rfl) (by kernel_rfl) ?_
   refine GmT.o (i := 7) (by kernel_rfl) (Does.storeAll (T := 29) (b := b19) (n := 32) (xs := (List.replicate 32 (0 : Int))) (ys := y24) (by kernel_rfl) ty29 hI (fun _ => rfl) (by kernel_rfl) hl25 ?_)
   intro w hI
   refine ⟨fun h => absurd h (by decide), ?_⟩
   refine GmT.p' 8 3 (.bool y26) (by kernel_rfl) (by kernel_rfl) ?_
   refine GmT.done (by kernel_rfl) ?_
   have e := someS h1
   subst e
   exact Qn.thenJ fun a ha => ⟨y24, y26, b19, rfl, ha.keep [1, 2, 3] (by kernel_rfl), hI, hl25⟩
 ·
  rintro a w ⟨x3, x5, b2, rfl, ha, hI, hl4⟩
  try dsimp only at h0
  refine CodT.of ?_ ha
  obtain ⟨r1, h1, h0⟩ := bindS h0
  refine CodT.meet (fun a w => ∃ (x30 : (List Int)) (x32 : Bool) (Z27 : Hp) (b29 : Nat), (x30, x32) = r1 ∧ Fr 82 [(1, pb b1), (2, pb b2), (3, .bool x5), (4, pb b29), (5, .bool x32)] a ∧ Inv w0 Z27 w (star (pt b29 (.cells (cA (Value.int .u8) x30).toArray 29 (0, 0))) (star (pt b2 (.cells (cA (Value.int .u8) x3).toArray 29 (0, 0))) (star (pt b1 (.cells (c_ApiEvent (ApiEvent.mk 7 0 (⟨#[]⟩ : ByteArray) 1 0 (List.replicate 32 (0 : Int)))).toArray 42 (0, 0))) A))) ∧ Z.le Z27 ∧ x30.length = 32) ?_ ?_
  ·
   refine CodT.drawI (n := 10) [8] (by kernel_rfl) (by kernel_rfl) hI ?_
   intro w hI
   refine GmT.r (i := 1) 2 (by kernel_rfl) (by kernel_rfl) (Yl.load (d := 19) (T := 42) (v := .agg (c_ApiEvent (ApiEvent.mk 7 0 (⟨#[]⟩ : ByteArray) 1 0 (List.replicate 32 (0 : Int)))).toArray) (by kernel_rfl) (ldBN ty42 (l := c_ApiEvent (ApiEvent.mk 7 0 (⟨#[]⟩ : ByteArray) 1 0 (List.replicate 32 (0 : Int)))) (o := 0) (cs := c_ApiEvent (ApiEvent.mk 7 0 (⟨#[]⟩ : ByteArray) 1 0 (List.replicate 32 (0 : Int)))) (pick2 _ _ _) (len_ApiEvent _ (by kernel_rfl)) (whole _ _ (len_ApiEvent _ (by kernel_rfl))))) hI ?_
   refine GmT.several [0, 2, 7] (by kernel_rfl) rfl ?_
   intro i hi; simp only [List.mem_cons, List.not_mem_nil, or_false] at hi; rcases hi with rfl | rfl | rfl
   ·
    obtain ⟨y34, hc33, h1⟩ := bindS h1
    try dsimp only at h1
    rw [lst_set]
    refine (Does.call (d := some 18) (n := 14) (vs := []) (by kernel_rfl) en14 (c14 w0 w _ _ hI _ hc33) ?_)
    rintro e w ⟨rfl, hl35, hI⟩
    refine ⟨_, rfl, ?_⟩
    refine ⟨fun _ _ => hI, ?_⟩
    refine GmT.several [2, 7] (by kernel_rfl) rfl ?_
    intro i hi; simp only [List.mem_cons, List.not_mem_nil, or_false] at hi; rcases hi with rfl | rfl
    ·
     rw [lst_set]
     refine (Does.buildSliceAll (en := c_ApiEvent) (d := 20) (n := 1) (T := 22) (ps := [(0, .agg (c_ApiEvent (ApiEvent.mk 7 0 (⟨#[]⟩ : ByteArray) 1 0 (List.replicate 32 (0 : Int)))).toArray)]) (fun y => .agg (c_ApiEvent y).toArray) (fun _ => rfl) ([(ApiEvent.mk 7 0 (⟨#[]⟩ : ByteArray) 1 0 (List.replicate 32 (0 : Int)))] : List ApiEvent) (by kernel_rfl) rfl Go.Proofs.Try.underlying22 ty42 rfl (by kernel_rfl) (by kernel_rfl) (by decide +kernel) (List.forall_mem_cons.2 ⟨(len_ApiEvent _ (by kernel_rfl)), (fun _ h => by cases h)⟩) hI ?_)
     intro b36 w hI
     have hC := hI
     have hC := hC.drop
     refine ⟨fun _ _ => hC, ?_⟩
     refine GmT.several [3, 7] (by kernel_rfl) rfl ?_
     intro i hi; simp only [List.mem_cons, List.not_mem_nil, or_false] at hi; rcases hi with rfl | rfl
     ·
      obtain ⟨Z37, hle38, hr39, hI⟩ := ownS_freeze hI
      obtain ⟨⟨y41, y43⟩, hc40, h1⟩ := bindS h1
      try dsimp only at h1
      rw [lst_set]
      refine (Does.call (d := some 21) (n := 12) (vs := [.agg (cA (Value.int .u8) y34).toArray, .slice (some ⟨b36, 0, none⟩) (([(ApiEvent.mk 7 0 (⟨#[]⟩ : ByteArray) 1 0 (List.replicate 32 (0 : Int)))] : List ApiEvent).length) 1]) (by kernel_rfl) en12 (c12 w0 w _ _ hI y34 hl35 (some ⟨b36, 0, none⟩) 1 ([(ApiEvent.mk 7 0 (⟨#[]⟩ : ByteArray) 1 0 (List.replicate 32 (0 : Int)))] : List ApiEvent) hr39 _ hc40) ?_)
      rintro e w ⟨rfl, hl42, hI⟩
      refine ⟨_, rfl, ?_⟩
      have hC := hI
      have hC := hC.weaken hle38
      refine ⟨fun _ _ => hC, ?_⟩
      refine GmT.p' 4 17 (.tuple #[.agg (cA (Value.int .u8) y41).toArray, .bool y43]) (by kernel_rfl) (by kernel_rfl) ?_
      refine GmT.p' 5 22 (.agg (cA (Value.int .u8) y41).toArray) (by kernel_rfl) (by kernel_rfl) ?_
      refine GmT.p' 6 23 (.bool y43) (by kernel_rfl) (by kernel_rfl) ?_
      refine GmT.o (i := 7) (by kernel_rfl) (Does.allocL (d := 4) (T := 29) (cA (Value.int .u8) (List.replicate 32 (0 : Int))) (by kernel_rfl) ty29 hI (by kernel_rfl) ?_)
      intro b44 w hI
      have hC := hI
      have hC := hC.drop
      have hC := hC.weaken hle38
      refine ⟨fun _ _ => hC, ?_⟩
      refine GmT.o (i := 8) (by kernel_rfl) (Does.storeAll (T := 29) (b := b44) (n := 32) (xs := (List.replicate 32 (0 : Int))) (ys := y41) (by kernel_rfl) ty29 hI (fun _ => rfl) (by kernel_rfl) hl42 ?_)
      intro w hI
      refine ⟨fun h => absurd h (by decide), ?_⟩
      refine GmT.p' 9 5 (.bool y43) (by kernel_rfl) (by kernel_rfl) ?_
      refine GmT.done (by kernel_rfl) ?_
      have e := someS h1
      subst e
      exact Qn.thenJ fun a ha => ⟨y41, y43, Z37, b44, rfl, ha.keep [1, 2, 3, 4, 5] (by kernel_rfl), hI, hle38, hl42⟩
     ·
      rw [lst_set]
      refine (Does.allocL (d := 4) (T := 29) (cA (Value.int .u8) (List.replicate 32 (0 : Int))) (by kernel_rfl) ty29 hI (by kernel_rfl) ?_)
      intro b45 w hI
      have hC := hI
      have hC := hC.drop
      have hC := hC.drop
      refine ⟨fun _ _ => hC, ?_⟩
      have hI := hI.mono (pick2 _ _ _)
      obtain ⟨Z46, hle47, hr48, hI⟩ := ownS_freeze hI
      obtain ⟨⟨y50, y52⟩, hc49, h1⟩ := bindS h1
      try dsimp only at h1
      refine GmT.o (i := 3) (by kernel_rfl) (Does.call (d := some 21) (n := 12) (vs := [.agg (cA (Value.int .u8) y34).toArray, .slice (some ⟨b36, 0, none⟩) (([(ApiEvent.mk 7 0 (⟨#[]⟩ : ByteArray) 1 0 (List.replicate 32 (0 : Int)))] : List ApiEvent).length) 1]) (by kernel_rfl) en12 (c12 w0 w _ _ hI y34 hl35 (some ⟨b36, 0, none⟩) 1 ([(ApiEvent.mk 7 0 (⟨#[]⟩ : ByteArray) 1 0 (List.replicate 32 (0 : Int)))] : List ApiEvent) hr48 _ hc49) ?_)
      rintro e w ⟨rfl, hl51, hI⟩
      refine ⟨_, rfl, ?_⟩
      have hC := hI
      have hC := hC.drop
      have hC := hC.weaken hle47
      refine ⟨fun _ _ => hC, ?_⟩
      refine GmT.p' 4 17 (.tuple #[.agg (cA (Value.int .u8) y50).toArray, .bool y52]) (by kernel_rfl) (by kernel_rfl) ?_
      refine GmT.p' 5 22 (.agg (cA (Value.int .u8) y50).toArray) (by kernel_rfl) (by kernel_rfl) ?_
      refine GmT.p' 6 23 (.bool y52) (by kernel_rfl) (by kernel_rfl) ?_
      refine GmT.o (i := 8) (by kernel_rfl) (Does.storeAll (T := 29) (b := b45) (n := 32) (xs := (List.replicate 32 (0 : Int))) (ys := y50) (by kernel_rfl) ty29 hI (fun _ => rfl) (by kernel_rfl) hl51 ?_)
      intro w hI
      refine ⟨fun h => absurd h (by decide), ?_⟩
      refine GmT.p' 9 5 (.bool y52) (by kernel_rfl) (by kernel_rfl) ?_
      refine GmT.done (by kernel_rfl) ?_
      have e := someS h1
      subst e
      exact Qn.thenJ fun a ha => ⟨y50, y52, Z46, b45, rfl, ha.keep [1, 2, 3, 4, 5] (by kernel_rfl), hI, hle47, hl51⟩
    ·
     rw [lst_set]
     refine (Does.allocL (d := 4) (T := 29) (cA (Value.int .u8) (List.replicate 32 (0 : Int))) (by kernel_rfl) ty29 hI (by kernel_rfl) ?_)
     intro b53 w hI
     have hC := hI
     have hC := hC.drop
     refine ⟨fun _ _ => hC, ?_⟩
     refine GmT.o (i := 2) (by kernel_rfl) (Does.buildSliceAll (en := c_ApiEvent) (d := 20) (n := 1) (T := 22) (ps := [(0, .agg (c_ApiEvent (ApiEvent.mk 7 0 (⟨#[]⟩ : ByteArray) 1 0 (List.replicate 32 (0 : Int)))).toArray)]) (fun y => .agg (c_ApiEvent y).toArray) (fun _ => rfl) ([(ApiEvent.mk 7 0 (⟨#[]⟩ : ByteArray) 1 0 (List.replicate 32 (0 : Int)))] : List ApiEvent) (by kernel_rfl) rfl Go.Proofs.Try.underlying22 ty42 rfl (by kernel_rfl) (by kernel_rfl) (by decide +kernel) (List.forall_mem_cons.2 ⟨(len_ApiEvent _ (by kernel_rfl)), (fun _ h => by cases h)⟩) hI ?_)
     intro b54 w hI
     have hC := hI
     have hC := hC.drop
     have hC := hC.drop
     refine ⟨fun _ _ => hC, ?_⟩
     obtain ⟨Z55, hle56, hr57, hI⟩ := ownS_freeze hI
     obtain ⟨⟨y59, y61⟩, hc58, h1⟩ := bindS h1
     try dsimp only at h1
     refine GmT.o (i := 3) (by kernel_rfl) (Does.call (d := some 21) (n := 12) (vs := [.agg (cA (Value.int .u8) y34).toArray, .slice (some ⟨b54, 0, none⟩) (([(ApiEvent.mk 7 0 (⟨#[]⟩ : ByteArray) 1 0 (List.replicate 32 (0 : Int)))] : List ApiEvent).length) 1]) (by kernel_rfl) en12 (c12 w0 w _ _ hI y34 hl35 (some ⟨b54, 0, none⟩) 1 ([(ApiEvent.mk 7 0 (⟨#[]⟩ : ByteArray) 1 0 (List.replicate 32 (0 : Int)))] : List ApiEvent) hr57 _ hc58) ?_)
     rintro e w ⟨rfl, hl60, hI⟩
     refine ⟨_, rfl, ?_⟩
     have hC := hI
     have hC := hC.drop
     have hC := hC.weaken hle56
     refine ⟨fun _ _ => hC, ?_⟩
     refine GmT.p' 4 17 (.tuple #[.agg (cA (Value.int .u8) y59).toArray, .bool y61]) (by kernel_rfl) (by kernel_rfl) ?_
     refine GmT.p' 5 22 (.agg (cA (Value.int .u8) y59).toArray) (by kernel_rfl) (by kernel_rfl) ?_
     refine GmT.p' 6 23 (.bool y61) (by kernel_rfl) (by kernel_rfl) ?_
     refine GmT.o (i := 8) (by kernel_rfl) (Does.storeAll (T := 29) (b := b53) (n := 32) (xs := (List.replicate 32 (0 : Int))) (ys := y59) (by kernel_rfl) ty29 hI (fun _ => rfl) (by kernel_rfl) hl60 ?_)
     intro w hI
     refine ⟨fun h => absurd h (by decide), ?_⟩
     refine GmT.p' 9 5 (.bool y61) (by kernel_rfl) (by kernel_rfl) ?_
     refine GmT.done (by kernel_rfl) ?_
     have e := someS h1
     subst e
     exact Qn.thenJ fun a ha => ⟨y59, y61, Z55, b53, rfl, ha.keep [1, 2, 3, 4, 5] (by kernel_rfl), hI, hle56, hl60⟩
   ·
    rw [lst_set]
    refine (Does.buildSliceAll (en := c_ApiEvent) (d := 20) (n := 1) (T := 22) (ps := [(0, .agg (c_ApiEvent (ApiEvent.mk 7 0 (⟨#[]⟩ : ByteArray) 1 0 (List.replicate 32 (0 : Int)))).toArray)]) (fun y => .agg (c_ApiEvent y).toArray) (fun _ => rfl) ([(ApiEvent.mk 7 0 (⟨#[]⟩ : ByteArray) 1 0 (List.replicate 32 (0 : Int)))] : List ApiEvent) (by kernel_rfl) rfl Go.Proofs.Try.underlying22 ty42 rfl (by kernel_rfl) (by kernel_rfl) (by decide +kernel) (List.forall_mem_cons.2 ⟨(len_ApiEvent _ (by kernel_rfl)), (fun _ h => by cases h)⟩) hI ?_)
    intro b62 w hI
    have hC := hI
    have hC := hC.drop
    refine ⟨fun _ _ => hC, ?_⟩
    refine GmT.several [0, 7] (by kernel_rfl) rfl ?_
    intro i hi; simp only [List.mem_cons, List.not_mem_nil, or_false] at hi; rcases hi with rfl | rfl
    ·
     obtain ⟨y64, hc63, h1⟩ := bindS h1
     try dsimp only at h1
     rw [lst_set]
     refine (Does.call (d := some 18) (n := 14) (vs := []) (by kernel_rfl) en14 (c14 w0 w _ _ hI _ hc63) ?_)
     rintro e w ⟨rfl, hl65, hI⟩
     refine ⟨_, rfl, ?_⟩
     have hC := hI
     have hC := hC.drop
     refine ⟨fun _ _ => hC, ?_⟩
     refine GmT.several [3, 7] (by kernel_rfl) rfl ?_
     intro i hi; simp only [List.mem_cons, List.not_mem_nil, or_false] at hi; rcases hi with rfl | rfl
     ·
      obtain ⟨Z66, hle67, hr68, hI⟩ := ownS_freeze hI
      obtain ⟨⟨y70, y72⟩, hc69, h1⟩ := bindS h1
      try dsimp only at h1
      rw [lst_set]
      refine (Does.call (d := some 21) (n := 12) (vs := [.agg (cA (Value.int .u8) y64).toArray, .slice (some ⟨b62, 0, none⟩) (([(ApiEvent.mk 7 0 (⟨#[]⟩ : ByteArray) 1 0 (List.replicate 32 (0 : Int)))] : List ApiEvent).length) 1]) (by kernel_rfl) en12 (c12 w0 w _ _ hI y64 hl65 (some ⟨b62, 0, none⟩) 1 ([(ApiEvent.mk 7 0 (⟨#[]⟩ : ByteArray) 1 0 (List.replicate 32 (0 : Int)))] : List ApiEvent) hr68 _ hc69) ?_)
      rintro e w ⟨rfl, hl71, hI⟩
      refine ⟨_, rfl, ?_⟩
      have hC := hI
      have hC := hC.weaken hle67
      refine ⟨fun _ _ => hC, ?_⟩
      refine GmT.p' 4 17 (.tuple #[.agg (cA (Value.int .u8) y70).toArray, .bool y72]) (by kernel_rfl) (by kernel_rfl) ?_
      refine GmT.p' 5 22 (.agg (cA (Value.int .u8) y70).toArray) (by kernel_rfl) (by kernel_rfl) ?_
      refine GmT.p' 6 23 (.bool y72) (by kernel_rfl) (by kernel_rfl) ?_
      refine GmT.o (i := 7) (by kernel_rfl) (Does.allocL (d := 4) (T := 29) (cA (Value.int .u8) (List.replicate 32 (0 : Int))) (by kernel_rfl) ty29 hI (by kernel_rfl) ?_)
      intro b73 w hI
      have hC := hI
      have hC := hC.drop
      have hC := hC.weaken hle67
      refine ⟨fun _ _ => hC, ?_⟩
      refine GmT.o (i := 8) (by kernel_rfl) (Does.storeAll (T := 29) (b := b73) (n := 32) (xs := (List.replicate 32 (0 : Int))) (ys := y70) (by kernel_rfl) ty29 hI (fun _ => rfl) (by kernel_rfl) hl71 ?_)
      intro w hI
      refine ⟨fun h => absurd h (by decide), ?_⟩
      refine GmT.p' 9 5 (.bool y72) (by kernel_rfl) (by kernel_rfl) ?_
      refine GmT.done (by kernel_rfl) ?_
      have e := someS h1
      subst e
      exact Qn.thenJ fun a ha => ⟨y70, y72, Z66, b73, rfl, ha.keep [1, 2, 3, 4, 5] (by kernel_rfl), hI, hle67, hl71⟩
     ·
      rw [lst_set]
      refine (Does.allocL (d := 4) (T := 29) (cA (Value.int .u8) (List.replicate 32 (0 : Int))) (by kernel_rfl) ty29 hI (by kernel_rfl) ?_)
      intro b74 w hI
      have hC := hI
      have hC := hC.drop
      have hC := hC.drop
      refine ⟨fun _ _ => hC, ?_⟩
      have hI := hI.mono (pick2 _ _ _)
      obtain ⟨Z75, hle76, hr77, hI⟩ := ownS_freeze hI
      obtain ⟨⟨y79, y81⟩, hc78, h1⟩ := bindS h1
      try dsimp only at h1
      refine GmT.o (i := 3) (by kernel_rfl) (Does.call (d := some 21) (n := 12) (vs := [.agg (cA (Value.int .u8) y64).toArray, .slice (some ⟨b62, 0, none⟩) (([(ApiEvent.mk 7 0 (⟨#[]⟩ : ByteArray) 1 0 (List.replicate 32 (0 : Int)))] : List ApiEvent).length) 1]) (by kernel_rfl) en12 (c12 w0 w _ _ hI y64 hl65 (some ⟨b62, 0, none⟩) 1 ([(ApiEvent.mk 7 0 (⟨#[]⟩ : ByteArray) 1 0 (List.replicate 32 (0 : Int)))] : List ApiEvent) hr77 _ hc78) ?_)
      rintro e w ⟨rfl, hl80, hI⟩
      refine ⟨_, rfl, ?_⟩
      have hC := hI
      have hC := hC.drop
      have hC := hC.weaken hle76
      refine ⟨fun _ _ => hC, ?_⟩
      refine GmT.p' 4 17 (.tuple #[.agg (cA (Value.int .u8) y79).toArray, .bool y81]) (by kernel_rfl) (by kernel_rfl) ?_
      refine GmT.p' 5 22 (.agg (cA (Value.int .u8) y79).toArray) (by kernel_rfl) (by kernel_rfl) ?_
      refine GmT.p' 6 23 (.bool y81) (by kernel_rfl) (by kernel_rfl) ?_
      refine GmT.o (i := 8) (by kernel_rfl) (Does.storeAll (T := 29) (b := b74) (n := 32) (xs := (List.replicate 32 (0 : Int))) (ys := y79) (by kernel_rfl) ty29 hI (fun _ => rfl) (by kernel_rfl) hl80 ?_)
      intro w hI
      refine ⟨fun h => absurd h (by decide), ?_⟩
      refine GmT.p' 9 5 (.bool y81) (by kernel_rfl) (by kernel_rfl) ?_
      refine GmT.done (by kernel_rfl) ?_
      have e := someS h1
      subst e
      exact Qn.thenJ fun a ha => ⟨y79, y81, Z75, b74, rfl, ha.keep [1, 2, 3, 4, 5] (by kernel_rfl), hI, hle76, hl80⟩
    ·
     rw [lst_set]
     refine (Does.allocL (d := 4) (T := 29) (cA (Value.int .u8) (List.replicate 32 (0 : Int))) (by kernel_rfl) ty29 hI (by kernel_rfl) ?_)
     intro b82 w hI
     have hC := hI
     have hC := hC.drop
     have hC := hC.drop
     refine ⟨fun _ _ => hC, ?_⟩
     obtain ⟨y84, hc83, h1⟩ := bindS h1
     try dsimp only at h1
     refine GmT.o (i := 0) (by kernel_rfl) (Does.call (d := some 18) (n := 14) (vs := []) (by kernel_rfl) en14 (c14 w0 w _ _ hI _ hc83) ?_)
     rintro e w ⟨rfl, hl85, hI⟩
     refine ⟨_, rfl, ?_⟩
     have hC := hI
     have hC := hC.drop
     have hC := hC.drop
     refine ⟨fun _ _ => hC, ?_⟩
     have hI := hI.mono (pick2 _ _ _)
     obtain ⟨Z86, hle87, hr88, hI⟩ := ownS_freeze hI
     obtain ⟨⟨y90, y92⟩, hc89, h1⟩ := bindS h1
     try dsimp only at h1
     refine GmT.o (i := 3) (by kernel_rfl) (Does.call (d := some 21) (n := 12) (vs := [.agg (cA (Value.int .u8) y84).toArray, .slice (some ⟨b62, 0, none⟩) (([(ApiEvent.mk 7 0 (⟨#[]⟩ : ByteArray) 1 0 (List.replicate 32 (0 : Int)))] : List ApiEvent).length) 1]) (by kernel_rfl) en12 (c12 w0 w _ _ hI y84 hl85 (some ⟨b62, 0, none⟩) 1 ([(ApiEvent.mk 7 0 (⟨#[]⟩ : ByteArray) 1 0 (List.replicate 32 (0 : Int)))] : List ApiEvent) hr88 _ hc89) ?_)
     rintro e w ⟨rfl, hl91, hI⟩
     refine ⟨_, rfl, ?_⟩
     have hC := hI
     have hC := hC.drop
     have hC := hC.weaken hle87
     refine ⟨fun _ _ => hC, ?_⟩
     refine GmT.p' 4 17 (.tuple #[.agg (cA (Value.int .u8) y90).toArray, .bool y92]) (by kernel_rfl) (by kernel_rfl) ?_
     refine GmT.p' 5 22 (.agg (cA (Value.int .u8) y90).toArray) (by kernel_rfl) (by kernel_rfl) ?_
     refine GmT.p' 6 23 (.bool y92) (by kernel_rfl) (by kernel_rfl) ?_
     refine GmT.o (i := 8) (by kernel_rfl) (Does.storeAll (T := 29) (b := b82) (n := 32) (xs := (List.replicate 32 (0 : Int))) (ys := y90) (by kernel_rfl) ty29 hI (fun _ => rfl) (by kernel_rfl) hl91 ?_)
     intro w hI
     refine ⟨fun h => absurd h (by decide), ?_⟩
     refine GmT.p' 9 5 (.bool y92) (by kernel_rfl) (by kernel_rfl) ?_
     refine GmT.done (by kernel_rfl) ?_
     have e := someS h1
     subst e
     exact Qn.thenJ fun a ha => ⟨y90, y92, Z86, b82, rfl, ha.keep [1, 2, 3, 4, 5] (by kernel_rfl), hI, hle87, hl91⟩
   ·
    rw [lst_set]
    refine (Does.allocL (d := 4) (T := 29) (cA (Value.int .u8) (List.replicate 32 (0 : Int))) (by kernel_rfl) ty29 hI (by kernel_rfl) ?_)
    intro b93 w hI
    have hC := hI
    have hC := hC.drop
    refine ⟨fun _ _ => hC, ?_⟩
    refine GmT.several [0, 2] (by kernel_rfl) rfl ?_
    intro i hi; simp only [List.mem_cons, List.not_mem_nil, or_false] at hi; rcases hi with rfl | rfl
    ·
     obtain ⟨y95, hc94, h1⟩ := bindS h1
     try dsimp only at h1
     rw [lst_set]
     refine (Does.call (d := some 18) (n := 14) (vs := []) (by kernel_rfl) en14 (c14 w0 w _ _ hI _ hc94) ?_)
     rintro e w ⟨rfl, hl96, hI⟩
     refine ⟨_, rfl, ?_⟩
     have hC := hI
     have hC := hC.drop
     refine ⟨fun _ _ => hC, ?_⟩
     refine GmT.o (i := 2) (by kernel_rfl) (Does.buildSliceAll (en := c_ApiEvent) (d := 20) (n := 1) (T := 22) (ps := [(0, .agg (c_ApiEvent (ApiEvent.mk 7 0 (⟨#[]⟩ : ByteArray) 1 0 (List.replicate 32 (0 : Int)))).toArray)]) (fun y => .agg (c_ApiEvent y).toArray) (fun _ => rfl) ([(ApiEvent.mk 7 0 (⟨#[]⟩ : ByteArray) 1 0 (List.replicate 32 (0 : Int)))] : List ApiEvent) (by kernel_rfl) rfl Go.Proofs.Try.underlying22 ty42 rfl (by kernel_rfl) (by kernel_rfl) (by decide +kernel) (List.forall_mem_cons.2 ⟨(len_ApiEvent _ (by kernel_rfl)), (fun _ h => by cases h)⟩) hI ?_)
     intro b97 w hI
     have hC := hI
     have hC := hC.drop
     have hC := hC.drop
     refine ⟨fun _ _ => hC, ?_⟩
     obtain ⟨Z98, hle99, hr100, hI⟩ := ownS_freeze hI
     obtain ⟨⟨y102, y104⟩, hc101, h1⟩ := bindS h1
     try dsimp only at h1
     refine GmT.o (i := 3) (by kernel_rfl) (Does.call (d := some 21) (n := 12) (vs := [.agg (cA (Value.int .u8) y95).toArray, .slice (some ⟨b97, 0, none⟩) (([(ApiEvent.mk 7 0 (⟨#[]⟩ : ByteArray) 1 0 (List.replicate 32 (0 : Int)))] : List ApiEvent).length) 1]) (by kernel_rfl) en12 (c12 w0 w _ _ hI y95 hl96 (some ⟨b97, 0, none⟩) 1 ([(ApiEvent.mk 7 0 (⟨#[]⟩ : ByteArray) 1 0 (List.replicate 32 (0 : Int)))] : List ApiEvent) hr100 _ hc101) ?_)
     rintro e w ⟨rfl, hl103, hI⟩
     refine ⟨_, rfl, ?_⟩
     have hC := hI
     have hC := hC.drop
     have hC := hC.weaken hle99
     refine ⟨fun _ _ => hC, ?_⟩
     refine GmT.p' 4 17 (.tuple #[.agg (cA (Value.int .u8) y102).toArray, .bool y104]) (by kernel_rfl) (by kernel_rfl) ?_
     refine GmT.p' 5 22 (.agg (cA (Value.int .u8) y102).toArray) (by kernel_rfl) (by kernel_rfl) ?_
     refine GmT.p' 6 23 (.bool y104) (by kernel_rfl) (by kernel_rfl) ?_
     refine GmT.o (i := 8) (by kernel_rfl) (Does.storeAll (T := 29) (b := b93) (n := 32) (xs := (List.replicate 32 (0 : Int))) (ys := y102) (by kernel_rfl) ty29 hI (fun _ => rfl) (by kernel_rfl) hl103 ?_)
     intro w hI
     refine ⟨fun h => absurd h (by decide), ?_⟩
     refine GmT.p' 9 5 (.bool y104) (by kernel_rfl) (by kernel_rfl) ?_
     refine GmT.done (by kernel_rfl) ?_
     have e := someS h1
     subst e
     exact Qn.thenJ fun a ha => ⟨y102, y104, Z98, b93, rfl, ha.keep [1, 2, 3, 4, 5] (by kernel_rfl), hI, hle99, hl103⟩
    ·
     rw [lst_set]
     refine (Does.buildSliceAll (en := c_ApiEvent) (d := 20) (n := 1) (T := 22) (ps := [(0, .agg (c_ApiEvent (ApiEvent.mk 7 0 (⟨#[]⟩ : ByteArray) 1 0 (List.replicate 32 (0 : Int)))).toArray)]) (fun y => .agg (c_ApiEvent y).toArray) (fun _ => rfl) ([(ApiEvent.mk 7 0 (⟨#[]⟩ : ByteArray) 1 0 (List.replicate 32 (0 : Int)))] : List ApiEvent) (by kernel_rfl) rfl Go.Proofs.Try.underlying22 ty42 rfl (by kernel_rfl) (by kernel_rfl) (by decide +kernel) (List.forall_mem_cons.2 ⟨(len_ApiEvent _ (by kernel_rfl)), (fun _ h => by cases h)⟩) hI ?_)
     intro b105 w hI
     have hC := hI
     have hC := hC.drop
     have hC := hC.drop
     refine ⟨fun _ _ => hC, ?_⟩
     obtain ⟨y107, hc106, h1⟩ := bindS h1
     try dsimp only at h1
     refine GmT.o (i := 0) (by kernel_rfl) (Does.call (d := some 18) (n := 14) (vs := []) (by kernel_rfl) en14 (c14 w0 w _ _ hI _ hc106) ?_)
     rintro e w ⟨rfl, hl108, hI⟩
     refine ⟨_, rfl, ?_⟩
     have hC := hI
     have hC := hC.drop
     have hC := hC.drop
     refine ⟨fun _ _ => hC, ?_⟩
     obtain ⟨Z109, hle110, hr111, hI⟩ := ownS_freeze hI
     obtain ⟨⟨y113, y115⟩, hc112, h1⟩ := bindS h1
     try dsimp only at h1
     refine GmT.o (i := 3) (by kernel_rfl) (Does.call (d := some 21) (n := 12) (vs := [.agg (cA (Value.int .u8) y107).toArray, .slice (some ⟨b105, 0, none⟩) (([(ApiEvent.mk 7 0 (⟨#[]⟩ : ByteArray) 1 0 (List.replicate 32 (0 : Int)))] : List ApiEvent).length) 1]) (by kernel_rfl) en12 (c12 w0 w _ _ hI y107 hl108 (some ⟨b105, 0, none⟩) 1 ([(ApiEvent.mk 7 0 (⟨#[]⟩ : ByteArray) 1 0 (List.replicate 32 (0 : Int)))] : List ApiEvent) hr111 _ hc112) ?_)
     rintro e w ⟨rfl, hl114, hI⟩
     refine ⟨_, rfl, ?_⟩
     have hC := hI
     have hC := hC.drop
     have hC := hC.weaken hle110
     refine ⟨fun _ _ => hC, ?_⟩
     refine GmT.p' 4 17 (.tuple #[.agg (cA (Value.int .u8) y113).toArray, .bool y115]) (by kernel_rfl) (by kernel_rfl) ?_
     refine GmT.p' 5 22 (.agg (cA (Value.int .u8) y113).toArray) (by kernel_rfl) (by kernel_rfl) ?_
     refine GmT.p' 6 23 (.bool y115) (by kernel_rfl) (by kernel_rfl) ?_
     refine GmT.o (i := 8) (by kernel_rfl) (Does.storeAll (T := 29) (b := b93) (n := 32) (xs := (List.replicate 32 (0 : Int))) (ys := y113) (by kernel_rfl) ty29 hI (fun _ => rfl) (by kernel_rfl) hl114 ?_)
     intro w hI
     refine ⟨fun h => absurd h (by decide), ?_⟩
     refine GmT.p' 9 5 (.bool y115) (by kernel_rfl) (by kernel_rfl) ?_
     refine GmT.done (by kernel_rfl) ?_
     have e := someS h1
     subst e
     exact Qn.thenJ fun a ha => ⟨y113, y115, Z109, b93, rfl, ha.keep [1, 2, 3, 4, 5] (by kernel_rfl), hI, hle110, hl114⟩
  ·
   rintro a w ⟨x30, x32, Z27, b29, rfl, ha, hI, hle28, hl31⟩
   try dsimp only at h0
   refine CodT.of ?_ ha
   refine cQ ?_
   refine cR [0, 1, 2, 3] (by kernel_rfl) ?_
   refine oC (Does.yi (Yl.load (d := 24) (T := 42) (v := .agg (c_ApiEvent (ApiEvent.mk 7 0 (⟨#[]⟩ : ByteArray) 1 0 (List.replicate 32 (0 : Int)))).toArray) (by kernel_rfl) (ldBN ty42 (l := c_ApiEvent (ApiEvent.mk 7 0 (⟨#[]⟩ : ByteArray) 1 0 (List.replicate 32 (0 : Int)))) (o := 0) (cs := c_ApiEvent (ApiEvent.mk 7 0 (⟨#[]⟩ : ByteArray) 1 0 (List.replicate 32 (0 : Int)))) (pick3 _ _ _ _) (len_ApiEvent _ (by kernel_rfl)) (whole _ _ (len_ApiEvent _ (by kernel_rfl))))) hI ?_)
   refine oC (Does.buildSliceAll (en := c_ApiEvent) (d := 25) (n := 1) (T := 22) (ps := [(0, .agg (c_ApiEvent (ApiEvent.mk 7 0 (⟨#[]⟩ : ByteArray) 1 0 (List.replicate 32 (0 : Int)))).toArray)]) (fun y => .agg (c_ApiEvent y).toArray) (fun _ => rfl) ([(ApiEvent.mk 7 0 (⟨#[]⟩ : ByteArray) 1 0 (List.replicate 32 (0 : Int)))] : List ApiEvent) (by kernel_rfl) rfl Go.Proofs.Try.underlying22 ty42 rfl (by kernel_rfl) (by kernel_rfl) (by decide +kernel) (List.forall_mem_cons.2 ⟨(len_ApiEvent _ (by kernel_rfl)), (fun _ h => by cases h)⟩) hI ?_)
   intro b116 w hI
   obtain ⟨Z117, hle118, hr119, hI⟩ := ownS_freeze hI
   obtain ⟨y121, hc120, h0⟩ := bindS h0
   try dsimp only at h0
   refine oC (Does.call (d := some 26) (n := 13) (vs := [.slice (some ⟨b116, 0, none⟩) (([(ApiEvent.mk 7 0 (⟨#[]⟩ : ByteArray) 1 0 (List.replicate 32 (0 : Int)))] : List ApiEvent).length) 1]) (by kernel_rfl) en13 (c13 w0 w _ _ hI (some ⟨b116, 0, none⟩) 1 ([(ApiEvent.mk 7 0 (⟨#[]⟩ : ByteArray) 1 0 (List.replicate 32 (0 : Int)))] : List ApiEvent) hr119 _ hc120) ?_)
   rintro e w ⟨A122, cp123, rfl, hI⟩
   refine ⟨_, rfl, ?_⟩
   refine oP (r := []) [3] (S' := [(1, pb b1), (2, pb b2), (3, .bool x5), (4, pb b29), (5, .bool x32), (6, .slice A122 y121.length cp123)]) (by kernel_rfl) ?_
   refine oD ?_
   refine qT ?_
   refine cQ ?_
   refine cR [0, 1, 2, 3, 4, 5, 6, 7, 8, 9] (by kernel_rfl) ?_
   refine oC (Does.yi (Yl.load (d := 28) (T := 42) (v := .agg (c_ApiEvent (ApiEvent.mk 7 0 (⟨#[]⟩ : ByteArray) 1 0 (List.replicate 32 (0 : Int)))).toArray) (by kernel_rfl) (ldBN ty42 (l := c_ApiEvent (ApiEvent.mk 7 0 (⟨#[]⟩ : ByteArray) 1 0 (List.replicate 32 (0 : Int)))) (o := 0) (cs := c_ApiEvent (ApiEvent.mk 7 0 (⟨#[]⟩ : ByteArray) 1 0 (List.replicate 32 (0 : Int)))) (pick4 _ _ _ _ _) (len_ApiEvent _ (by kernel_rfl)) (whole _ _ (len_ApiEvent _ (by kernel_rfl))))) hI ?_)
   refine oC (Does.buildSliceAll (en := c_ApiEvent) (d := 29) (n := 1) (T := 22) (ps := [(0, .agg (c_ApiEvent (ApiEvent.mk 7 0 (⟨#[]⟩ : ByteArray) 1 0 (List.replicate 32 (0 : Int)))).toArray)]) (fun y => .agg (c_ApiEvent y).toArray) (fun _ => rfl) ([(ApiEvent.mk 7 0 (⟨#[]⟩ : ByteArray) 1 0 (List.replicate 32 (0 : Int)))] : List ApiEvent) (by kernel_rfl) rfl Go.Proofs.Try.underlying22 ty42 rfl (by kernel_rfl) (by kernel_rfl) (by decide +kernel) (List.forall_mem_cons.2 ⟨(len_ApiEvent _ (by kernel_rfl)), (fun _ h => by cases h)⟩) hI ?_)
   intro b124 w hI
   obtain ⟨Z125, hle126, hr127, hI⟩ := ownS_freeze hI
   obtain ⟨⟨y129, y130, y131⟩, hc128, h0⟩ := bindS h0
   try dsimp only at h0
   refine oC (Does.call (d := some 30) (n := 10) (vs := [.slice none 0 0, .slice (some ⟨b124, 0, none⟩) (([(ApiEvent.mk 7 0 (⟨#[]⟩ : ByteArray) 1 0 (List.replicate 32 (0 : Int)))] : List ApiEvent).length) 1]) (by kernel_rfl) en10 (c10 w0 w _ _ hI none 0 ([] : List ApiEvent) (RdS.nil _ _ _ _ _ (Nat.zero_le _)) (some ⟨b124, 0, none⟩) 1 ([(ApiEvent.mk 7 0 (⟨#[]⟩ : ByteArray) 1 0 (List.replicate 32 (0 : Int)))] : List ApiEvent) hr127 _ hc128) ?_)
   rintro e w ⟨rfl, hI⟩
   refine ⟨_, rfl, ?_⟩
   refine oP (r := []) [3, 4, 5, 6, 7, 8, 9] (S' := [(1, pb b1), (2, pb b2), (3, .bool x5), (4, pb b29), (5, .bool x32), (6, .slice A122 y121.length cp123), (9, .bool y131)]) (by kernel_rfl) ?_
   refine oD ?_
   refine qT ?_
   obtain ⟨r1, h1, h0⟩ := bindS h0
   refine CodT.meet (fun a w => ∃ (x134 : Bool) (Z132 : Hp), x134 = r1 ∧ Fr 82 [(0, .bool x134)] a ∧ Inv w0 Z132 w A ∧ Z125.le Z132) ?_ ?_
   ·
    refine CodT.drawI (n := 49) [] (by kernel_rfl) (by kernel_rfl) hI ?_
    intro w hI
    obtain ⟨y136, hc135, h1⟩ := bindS h1
    try dsimp only at h1
    refine GmT.o (i := 0) (by kernel_rfl) (Does.call (d := some 34) (n := 14) (vs := []) (by kernel_rfl) en14 (c14 w0 w _ _ hI _ hc135) ?_)
    rintro e w ⟨rfl, hl137, hI⟩
    refine ⟨_, rfl, ?_⟩
    refine ⟨fun _ _ => hI, ?_⟩
    obtain ⟨y139, hc138, h1⟩ := bindS h1
    try dsimp only at h1
    refine GmT.o (i := 1) (by kernel_rfl) (Does.call (d := some 35) (n := 16) (vs := [.string (⟨#[99, 101, 110, 111, 116, 97, 112, 104]⟩ : ByteArray)]) (by kernel_rfl) en16 (c16 w0 w _ _ hI (⟨#[99, 101, 110, 111, 116, 97, 112, 104]⟩ : ByteArray) _ hc138) ?_)
    rintro e w ⟨rfl, hl140, hI⟩
    refine ⟨_, rfl, ?_⟩
    refine ⟨fun _ _ => hI, ?_⟩
    refine GmT.r (i := 2) 2 (by kernel_rfl) (by kernel_rfl) (Yl.eqlA (k := .u8) (d := 36) (T := 29) (xs := y136) (ys := y139) (by kernel_rfl) Go.Proofs.Try.underlying29 (by kernel_rfl) Go.Proofs.Try.underlying5 ty5 hl137 hl140) hI ?_
    refine GmT.p' 3 37 (.bool (eqA y136 y139)) (by kernel_rfl) (by kernel_rfl) ?_
    by_cases hb141 : (eqA y136 y139) = true
    ·
     rw [if_pos hb141] at h1
     refine GmT.keep [1, 2, 3, 4, 5, 6, 9, 37] (S' := [(1, pb b1), (2, pb b2), (3, .bool x5), (4, pb b29), (5, .bool x32), (6, .slice A122 y121.length cp123), (9, .bool y131), (37, .bool true)]) (by simp only [hb141]; kernel_rfl) ?_
     refine GmT.p' 4 38 (.bool x5) (by kernel_rfl) (by kernel_rfl) ?_
     refine GmT.p' 5 39 (.bool x5) (by kernel_rfl) (by kernel_rfl) ?_
     refine GmT.p' 6 40 (.bool x5) (by kernel_rfl) (by kernel_rfl) ?_
     by_cases hb142 : x5 = true
     ·
      rw [if_pos hb142] at h1
      refine GmT.keep [1, 2, 4, 5, 6, 9, 40] (S' := [(1, pb b1), (2, pb b2), (4, pb b29), (5, .bool x32), (6, .slice A122 y121.length cp123), (9, .bool y131), (40, .bool true)]) (by simp only [hb142]; kernel_rfl) ?_
      refine GmT.p' 7 41 (.bool x32) (by kernel_rfl) (by kernel_rfl) ?_
      refine GmT.p' 8 42 (.bool x32) (by kernel_rfl) (by kernel_rfl) ?_
      refine GmT.p' 9 43 (.bool x32) (by kernel_rfl) (by kernel_rfl) ?_
      by_cases hb143 : x32 = true
      ·
       rw [if_pos hb143] at h1
       refine GmT.keep [1, 2, 4, 6, 9, 43] (S' := [(1, pb b1), (2, pb b2), (4, pb b29), (6, .slice A122 y121.length cp123), (9, .bool y131), (43, .bool true)]) (by simp only [hb143]; kernel_rfl) ?_
       refine GmT.r (i := 10) 2 (by kernel_rfl) (by kernel_rfl) (Yl.load (d := 44) (T := 29) (v := .agg (cA (Value.int .u8) x3).toArray) (by kernel_rfl) (ldBN ty29 (l := cA (Value.int .u8) x3) (o := 0) (cs := cA (Value.int .u8) x3) (pick3 _ _ _ _) ((cA_length _ _).trans hl4) (whole _ _ ((cA_length _ _).trans hl4)))) hI ?_
       refine GmT.r (i := 11) 2 (by kernel_rfl) (by kernel_rfl) (Yl.load (d := 45) (T := 29) (v := .agg (cA (Value.int .u8) x30).toArray) (by kernel_rfl) (ldBN ty29 (l := cA (Value.int .u8) x30) (o := 0) (cs := cA (Value.int .u8) x30) (pick2 _ _ _) ((cA_length _ _).trans hl31) (whole _ _ ((cA_length _ _).trans hl31)))) hI ?_
       refine GmT.r (i := 12) 2 (by kernel_rfl) (by kernel_rfl) (Yl.eqlA (k := .u8) (d := 46) (T := 29) (xs := x3) (ys := x30) (by kernel_rfl) Go.Proofs.Try.underlying29 (by kernel_rfl) Go.Proofs.Try.underlying5 ty5 hl4 hl31) hI ?_
       refine GmT.p' 13 47 (.bool (eqA x3 x30)) (by kernel_rfl) (by kernel_rfl) ?_
       refine GmT.p' 14 48 (.bool (eqA x3 x30)) (by kernel_rfl) (by kernel_rfl) ?_
       by_cases hb144 : (eqA x3 x30) = true
       ·
        rw [if_pos hb144] at h1
        refine GmT.keep [1, 2, 6, 9, 48] (S' := [(1, pb b1), (2, pb b2), (6, .slice A122 y121.length cp123), (9, .bool y131), (48, .bool true)]) (by simp only [hb144]; kernel_rfl) ?_
        refine GmT.p' 15 49 (.slice A122 y121.length cp123) (by kernel_rfl) (by kernel_rfl) ?_
        refine GmT.p' 16 50 (iv (y121.length : Int)) (by kernel_rfl) (by kernel_rfl) ?_
        refine GmT.p' 17 51 (.bool ((y121.length : Int) == 2)) (by kernel_rfl) (by kernel_rfl) ?_
        refine GmT.p' 18 52 (.bool ((y121.length : Int) == 2)) (by kernel_rfl) (by kernel_rfl) ?_
        refine GmT.p' 19 53 (.bool ((y121.length : Int) == 2)) (by kernel_rfl) (by kernel_rfl) ?_
        by_cases hb145 : ((y121.length : Int) == 2) = true
        ·
         rw [if_pos hb145] at h1
         refine GmT.keep [1, 2, 6, 9, 53] (S' := [(1, pb b1), (2, pb b2), (6, .slice A122 y121.length cp123), (9, .bool y131), (53, .bool true)]) (by simp only [hb145]; kernel_rfl) ?_
         refine GmT.p' 20 54 (.slice A122 y121.length cp123) (by kernel_rfl) (by kernel_rfl) ?_
         obtain ⟨hg146, h1⟩ := guardS h1
         obtain ⟨g147, hA148, hr149, hl150⟩ := ownS_get hI hg146.1 hg146.2
         refine GmT.r (i := 21) 2 (by kernel_rfl) (by kernel_rfl) (Yl.indexSlice (d := 55) (T := 32) (cc := cp123) (k := .i64) (j := 1) (g := g147) (o := 0) (by kernel_rfl) Go.Proofs.Try.underlying32 ty29 hA148 hg146.1 hg146.2) hI ?_
         refine GmT.r (i := 22) 2 (by kernel_rfl) (by kernel_rfl) (Yl.load (d := 56) (T := 29) (v := .agg (cA (Value.int .u8) (gt y121 1)).toArray) (by kernel_rfl) (ldRN ty29 (cs := cA (Value.int .u8) (gt y121 1)) 0 (fun w hC => hr149 w0 w _ hC) ((cA_length _ _).trans ((cA_length _ _).symm.trans hl150)) (whole _ _ ((cA_length _ _).trans ((cA_length _ _).symm.trans hl150))))) hI ?_
         refine GmT.r (i := 23) 2 (by kernel_rfl) (by kernel_rfl) (Yl.load (d := 57) (T := 29) (v := .agg (cA (Value.int .u8) x3).toArray) (by kernel_rfl) (ldBN ty29 (l := cA (Value.int .u8) x3) (o := 0) (cs := cA (Value.int .u8) x3) (pick3 _ _ _ _) ((cA_length _ _).trans hl4) (whole _ _ ((cA_length _ _).trans hl4)))) hI ?_
         refine GmT.r (i := 24) 2 (by kernel_rfl) (by kernel_rfl) (Yl.eqlA (k := .u8) (d := 58) (T := 29) (xs := gt y121 1) (ys := x3) (by kernel_rfl) Go.Proofs.Try.underlying29 (by kernel_rfl) Go.Proofs.Try.underlying5 ty5 ((cA_length _ _).symm.trans hl150) hl4) hI ?_
         refine GmT.p' 25 59 (.bool (eqA (gt y121 1) x3)) (by kernel_rfl) (by kernel_rfl) ?_
         refine GmT.p' 26 60 (.bool (eqA (gt y121 1) x3)) (by kernel_rfl) (by kernel_rfl) ?_
         by_cases hb151 : (eqA (gt y121 1) x3) = true
         ·
          rw [if_pos hb151] at h1
          refine GmT.keep [1, 2, 9, 60] (S' := [(1, pb b1), (2, pb b2), (9, .bool y131), (60, .bool true)]) (by simp only [hb151]; kernel_rfl) ?_
          refine GmT.p' 27 61 (.bool y131) (by kernel_rfl) (by kernel_rfl) ?_
          refine GmT.p' 28 62 (.bool (!y131)) (by kernel_rfl) (by kernel_rfl) ?_
          refine GmT.p' 29 63 (.bool (!y131)) (by kernel_rfl) (by kernel_rfl) ?_
          refine GmT.p' 30 64 (.bool (!y131)) (by kernel_rfl) (by kernel_rfl) ?_
          by_cases hb152 : (!y131) = true
          ·
           rw [if_pos hb152] at h1
           refine GmT.keep [1, 2, 64] (S' := [(1, pb b1), (2, pb b2), (64, .bool true)]) (by simp only [hb152]; kernel_rfl) ?_
           refine GmT.r (i := 31) 2 (by kernel_rfl) (by kernel_rfl) (Yl.load (d := 65) (T := 42) (v := .agg (c_ApiEvent (ApiEvent.mk 7 0 (⟨#[]⟩ : ByteArray) 1 0 (List.replicate 32 (0 : Int)))).toArray) (by kernel_rfl) (ldBN ty42 (l := c_ApiEvent (ApiEvent.mk 7 0 (⟨#[]⟩ : ByteArray) 1 0 (List.replicate 32 (0 : Int)))) (o := 0) (cs := c_ApiEvent (ApiEvent.mk 7 0 (⟨#[]⟩ : ByteArray) 1 0 (List.replicate 32 (0 : Int)))) (pick4 _ _ _ _ _) (len_ApiEvent _ (by kernel_rfl)) (whole _ _ (len_ApiEvent _ (by kernel_rfl))))) hI ?_
           refine GmT.o (i := 32) (by kernel_rfl) (Does.buildSliceAll (en := c_ApiEvent) (d := 66) (n := 1) (T := 22) (ps := [(0, .agg (c_ApiEvent (ApiEvent.mk 7 0 (⟨#[]⟩ : ByteArray) 1 0 (List.replicate 32 (0 : Int)))).toArray)]) (fun y => .agg (c_ApiEvent y).toArray) (fun _ => rfl) ([(ApiEvent.mk 7 0 (⟨#[]⟩ : ByteArray) 1 0 (List.replicate 32 (0 : Int)))] : List ApiEvent) (by kernel_rfl) rfl Go.Proofs.Try.underlying22 ty42 rfl (by kernel_rfl) (by kernel_rfl) (by decide +kernel) (List.forall_mem_cons.2 ⟨(len_ApiEvent _ (by kernel_rfl)), (fun _ h => by cases h)⟩) hI ?_)
           intro b153 w hI
           have hC := hI
           have hC := hC.drop
           refine ⟨fun _ _ => hC, ?_⟩
           obtain ⟨Z154, hle155, hr156, hI⟩ := ownS_freeze hI
           obtain ⟨y158, hc157, h1⟩ := bindS h1
           try dsimp only at h1
           refine GmT.o (i := 33) (by kernel_rfl) (Does.call (d := some 67) (n := 18) (vs := [.slice (some ⟨b153, 0, none⟩) (([(ApiEvent.mk 7 0 (⟨#[]⟩ : ByteArray) 1 0 (List.replicate 32 (0 : Int)))] : List ApiEvent).length) 1, iv 0]) (by kernel_rfl) en18 (c18 w0 w _ _ hI (some ⟨b153, 0, none⟩) 1 ([(ApiEvent.mk 7 0 (⟨#[]⟩ : ByteArray) 1 0 (List.replicate 32 (0 : Int)))] : List ApiEvent) hr156 0 _ hc157) ?_)
           rintro e w ⟨rfl, hI⟩
           refine ⟨_, rfl, ?_⟩
           have hC := hI
           have hC := hC.weaken hle155
           refine ⟨fun _ _ => hC, ?_⟩
           refine GmT.p' 34 68 (.bool (seq y158 (⟨#[99, 101, 110, 111, 116, 97, 112, 104]⟩ : ByteArray))) (by kernel_rfl) (by kernel_rfl) ?_
           refine GmT.p' 35 69 (.bool (seq y158 (⟨#[99, 101, 110, 111, 116, 97, 112, 104]⟩ : ByteArray))) (by kernel_rfl) (by kernel_rfl) ?_
           refine GmT.p' 36 70 (.bool (seq y158 (⟨#[99, 101, 110, 111, 116, 97, 112, 104]⟩ : ByteArray))) (by kernel_rfl) (by kernel_rfl) ?_
           by_cases hb159 : (seq y158 (⟨#[99, 101, 110, 111, 116, 97, 112, 104]⟩ : ByteArray)) = true
           ·
            rw [if_pos hb159] at h1
            refine GmT.keep [1, 2, 70] (S' := [(1, pb b1), (2, pb b2), (70, .bool true)]) (by simp only [hb159]; kernel_rfl) ?_
            have hC := hI
            have hC := hC.weaken hle155
            refine GmT.r (i := 37) 2 (by kernel_rfl) (by kernel_rfl) (Yl.load (d := 71) (T := 42) (v := .agg (c_ApiEvent (ApiEvent.mk 7 0 (⟨#[]⟩ : ByteArray) 1 0 (List.replicate 32 (0 : Int)))).toArray) (by kernel_rfl) (ldBN ty42 (l := c_ApiEvent (ApiEvent.mk 7 0 (⟨#[]⟩ : ByteArray) 1 0 (List.replicate 32 (0 : Int)))) (o := 0) (cs := c_ApiEvent (ApiEvent.mk 7 0 (⟨#[]⟩ : ByteArray) 1 0 (List.replicate 32 (0 : Int)))) (pick4 _ _ _ _ _) (len_ApiEvent _ (by kernel_rfl)) (whole _ _ (len_ApiEvent _ (by kernel_rfl))))) hC ?_
            refine GmT.o (i := 38) (by kernel_rfl) (Does.buildSliceAll (en := c_ApiEvent) (d := 72) (n := 1) (T := 22) (ps := [(0, .agg (c_ApiEvent (ApiEvent.mk 7 0 (⟨#[]⟩ : ByteArray) 1 0 (List.replicate 32 (0 : Int)))).toArray)]) (fun y => .agg (c_ApiEvent y).toArray) (fun _ => rfl) ([(ApiEvent.mk 7 0 (⟨#[]⟩ : ByteArray) 1 0 (List.replicate 32 (0 : Int)))] : List ApiEvent) (by kernel_rfl) rfl Go.Proofs.Try.underlying22 ty42 rfl (by kernel_rfl) (by kernel_rfl) (by decide +kernel) (List.forall_mem_cons.2 ⟨(len_ApiEvent _ (by kernel_rfl)), (fun _ h => by cases h)⟩) hI ?_)
            intro b160 w hI
            have hC := hI
            have hC := hC.drop
            have hC := hC.weaken hle155
            refine ⟨fun _ _ => hC, ?_⟩
            obtain ⟨Z161, hle162, hr163, hI⟩ := ownS_freeze hI
            obtain ⟨y165, hc164, h1⟩ := bindS h1
            try dsimp only at h1
            refine GmT.o (i := 39) (by kernel_rfl) (Does.call (d := some 73) (n := 18) (vs := [.slice (some ⟨b160, 0, none⟩) (([(ApiEvent.mk 7 0 (⟨#[]⟩ : ByteArray) 1 0 (List.replicate 32 (0 : Int)))] : List ApiEvent).length) 1, iv 1]) (by kernel_rfl) en18 (c18 w0 w _ _ hI (some ⟨b160, 0, none⟩) 1 ([(ApiEvent.mk 7 0 (⟨#[]⟩ : ByteArray) 1 0 (List.replicate 32 (0 : Int)))] : List ApiEvent) hr163 1 _ hc164) ?_)
            rintro e w ⟨rfl, hI⟩
            refine ⟨_, rfl, ?_⟩
            have hC := hI
            have hC := hC.weaken (Hp.le_trans hle155 hle162)
            refine ⟨fun _ _ => hC, ?_⟩
            refine GmT.p' 40 74 (iv (y165.size : Int)) (by kernel_rfl) (by kernel_rfl) ?_
            refine GmT.p' 41 75 (.bool ((y165.size : Int) == 34)) (by kernel_rfl) (by kernel_rfl) ?_
            refine GmT.p' 42 76 (.bool ((y165.size : Int) == 34)) (by kernel_rfl) (by kernel_rfl) ?_
            refine GmT.p' 43 77 (.bool ((y165.size : Int) == 34)) (by kernel_rfl) (by kernel_rfl) ?_
            by_cases hb166 : ((y165.size : Int) == 34) = true
            ·
             rw [if_pos hb166] at h1
             refine GmT.keep [2, 77] (S' := [(2, pb b2), (77, .bool true)]) (by simp only [hb166]; kernel_rfl) ?_
             have hC := hI
             have hC := hC.weaken (Hp.le_trans hle155 hle162)
             refine GmT.r (i := 44) 2 (by kernel_rfl) (by kernel_rfl) (Yl.load (d := 78) (T := 29) (v := .agg (cA (Value.int .u8) x3).toArray) (by kernel_rfl) (ldBN ty29 (l := cA (Value.int .u8) x3) (o := 0) (cs := cA (Value.int .u8) x3) (pick3 _ _ _ _) ((cA_length _ _).trans hl4) (whole _ _ ((cA_length _ _).trans hl4)))) hC ?_
             obtain ⟨y168, hc167, h1⟩ := bindS h1
             try dsimp only at h1
             refine GmT.o (i := 45) (by kernel_rfl) (Does.call (d := some 79) (n := 14) (vs := []) (by kernel_rfl) en14 (c14 w0 w _ _ hI _ hc167) ?_)
             rintro e w ⟨rfl, hl169, hI⟩
             refine ⟨_, rfl, ?_⟩
             have hC := hI
             have hC := hC.weaken (Hp.le_trans hle155 hle162)
             refine ⟨fun _ _ => hC, ?_⟩
             have hC := hI
             have hC := hC.weaken (Hp.le_trans hle155 hle162)
             refine GmT.r (i := 46) 2 (by kernel_rfl) (by kernel_rfl) (Yl.neqA (k := .u8) (d := 80) (T := 29) (xs := x3) (ys := y168) (by kernel_rfl) Go.Proofs.Try.underlying29 (by kernel_rfl) Go.Proofs.Try.underlying5 ty5 hl4 hl169) hC ?_
             refine GmT.p' 47 81 (.bool (!(eqA x3 y168))) (by kernel_rfl) (by kernel_rfl) ?_
             refine GmT.p' 48 0 (.bool (!(eqA x3 y168))) (by kernel_rfl) (by kernel_rfl) ?_
             refine GmT.done (by kernel_rfl) ?_
             have hI := hI.drop
             have hI := hI.drop
             have hI := hI.drop
             have hI := hI.drop
             have e := someS h1
             subst e
             exact Qn.thenJ fun a ha => ⟨!(eqA x3 y168), Z161, rfl, ha.keep [0] (by kernel_rfl), hI, (Hp.le_trans hle155 hle162)⟩
            ·
             rw [if_neg hb166] at h1
             have hb166 : ((y165.size : Int) == 34) = false := by simpa using hb166
             refine GmT.keep [2, 77] (S' := [(2, pb b2), (77, .bool false)]) (by simp only [hb166]; kernel_rfl) ?_
             refine GmT.p' 44 78 (undef) (by kernel_rfl) (by kernel_rfl) ?_
             refine GmT.p' 45 79 (undef) (by kernel_rfl) (by kernel_rfl) ?_
             refine GmT.p' 46 80 (undef) (by kernel_rfl) (by kernel_rfl) ?_
             refine GmT.p' 47 81 (.bool false) (by kernel_rfl) (by kernel_rfl) ?_
             refine GmT.p' 48 0 (.bool false) (by kernel_rfl) (by kernel_rfl) ?_
             refine GmT.done (by kernel_rfl) ?_
             have hI := hI.drop
             have hI := hI.drop
             have hI := hI.drop
             have hI := hI.drop
             have e := someS h1
             subst e
             exact Qn.thenJ fun a ha => ⟨false, Z161, rfl, ha.keep [0] (by kernel_rfl), hI, (Hp.le_trans hle155 hle162)⟩
           ·
            rw [if_neg hb159] at h1
            have hb159 : (seq y158 (⟨#[99, 101, 110, 111, 116, 97, 112, 104]⟩ : ByteArray)) = false := by simpa using hb159
            refine GmT.keep [1, 2, 70] (S' := [(1, pb b1), (2, pb b2), (70, .bool false)]) (by simp only [hb159]; kernel_rfl) ?_
            refine GmT.p' 37 71 (undef) (by kernel_rfl) (by kernel_rfl) ?_
            refine GmT.p' 38 72 (undef) (by kernel_rfl) (by kernel_rfl) ?_
            refine GmT.p' 39 73 (undef) (by kernel_rfl) (by kernel_rfl) ?_
            refine GmT.p' 40 74 (undef) (by kernel_rfl) (by kernel_rfl) ?_
            refine GmT.p' 41 75 (undef) (by kernel_rfl) (by kernel_rfl) ?_
            refine GmT.p' 42 76 (.bool false) (by kernel_rfl) (by kernel_rfl) ?_
            refine GmT.p' 43 77 (.bool false) (by kernel_rfl) (by kernel_rfl) ?_
            refine GmT.p' 44 78 (undef) (by kernel_rfl) (by kernel_rfl) ?_
            refine GmT.p' 45 79 (undef) (by kernel_rfl) (by kernel_rfl) ?_
            refine GmT.p' 46 80 (undef) (by kernel_rfl) (by kernel_rfl) ?_
            refine GmT.p' 47 81 (.bool false) (by kernel_rfl) (by kernel_rfl) ?_
            refine GmT.p' 48 0 (.bool false) (by kernel_rfl) (by kernel_rfl) ?_
            refine GmT.done (by kernel_rfl) ?_
            have hI := hI.drop
            have hI := hI.drop
            have hI := hI.drop
            have hI := hI.drop
            have e := someS h1
            subst e
            exact Qn.thenJ fun a ha => ⟨false, Z154, rfl, ha.keep [0] (by kernel_rfl), hI, hle155⟩
          ·
           rw [if_neg hb152] at h1
           have hb152 : (!y131) = false := by simpa using hb152
           refine GmT.keep [1, 2, 64] (S' := [(1, pb b1), (2, pb b2), (64, .bool false)]) (by simp only [hb152]; kernel_rfl) ?_
           refine GmT.p' 31 65 (undef) (by kernel_rfl) (by kernel_rfl) ?_
           refine GmT.p' 32 66 (undef) (by kernel_rfl) (by kernel_rfl) ?_
           refine GmT.p' 33 67 (undef) (by kernel_rfl) (by kernel_rfl) ?_
           refine GmT.p' 34 68 (undef) (by kernel_rfl) (by kernel_rfl) ?_
           refine GmT.p' 35 69 (.bool false) (by kernel_rfl) (by kernel_rfl) ?_
           refine GmT.p' 36 70 (.bool false) (by kernel_rfl) (by kernel_rfl) ?_
           refine GmT.p' 37 71 (undef) (by kernel_rfl) (by kernel_rfl) ?_
           refine GmT.p' 38 72 (undef) (by kernel_rfl) (by kernel_rfl) ?_
           refine GmT.p' 39 73 (undef) (by kernel_rfl) (by kernel_rfl) ?_
           refine GmT.p' 40 74 (undef) (by kernel_rfl) (by kernel_rfl) ?_
           refine GmT.p' 41 75 (undef) (by kernel_rfl) (by kernel_rfl) ?_
           refine GmT.p' 42 76 (.bool false) (by kernel_rfl) (by kernel_rfl) ?_
           refine GmT.p' 43 77 (.bool false) (by kernel_rfl) (by kernel_rfl) ?_
           refine GmT.p' 44 78 (undef) (by kernel_rfl) (by kernel_rfl) ?_
           refine GmT.p' 45 79 (undef) (by kernel_rfl) (by kernel_rfl) ?_
           refine GmT.p' 46 80 (undef) (by kernel_rfl) (by kernel_rfl) ?_
           refine GmT.p' 47 81 (.bool false) (by kernel_rfl) (by kernel_rfl) ?_
           refine GmT.p' 48 0 (.bool false) (by kernel_rfl) (by kernel_rfl) ?_
           refine GmT.done (by kernel_rfl) ?_
           have hI := hI.drop
           have hI := hI.drop
           have hI := hI.drop
           have hI := hI.drop
           have e := someS h1
           subst e
           exact Qn.thenJ fun a ha => ⟨false, Z125, rfl, ha.keep [0] (by kernel_rfl), hI, (Hp.le_refl _)⟩
         ·
          rw [if_neg hb151] at h1
          have hb151 : (eqA (gt y121 1) x3) = false := by simpa using hb151
          refine GmT.keep [1, 2, 9, 60] (S' := [(1, pb b1), (2, pb b2), (9, .bool y131), (60, .bool false)]) (by simp only [hb151]; kernel_rfl) ?_
          refine GmT.p' 27 61 (undef) (by kernel_rfl) (by kernel_rfl) ?_
          refine GmT.p' 28 62 (undef) (by kernel_rfl) (by kernel_rfl) ?_
          refine GmT.p' 29 63 (.bool false) (by kernel_rfl) (by kernel_rfl) ?_
          refine GmT.p' 30 64 (.bool false) (by kernel_rfl) (by kernel_rfl) ?_
          refine GmT.p' 31 65 (undef) (by kernel_rfl) (by kernel_rfl) ?_
          refine GmT.p' 32 66 (undef) (by kernel_rfl) (by kernel_rfl) ?_
          refine GmT.p' 33 67 (undef) (by kernel_rfl) (by kernel_rfl) ?_
          refine GmT.p' 34 68 (undef) (by kernel_rfl) (by kernel_rfl) ?_
          refine GmT.p' 35 69 (.bool false) (by kernel_rfl) (by kernel_rfl) ?_
          refine GmT.p' 36 70 (.bool false) (by kernel_rfl) (by kernel_rfl) ?_
          refine GmT.p' 37 71 (undef) (by kernel_rfl) (by kernel_rfl) ?_
          refine GmT.p' 38 72 (undef) (by kernel_rfl) (by kernel_rfl) ?_
          refine GmT.p' 39 73 (undef) (by kernel_rfl) (by kernel_rfl) ?_
          refine GmT.p' 40 74 (undef) (by kernel_rfl) (by kernel_rfl) ?_
          refine GmT.p' 41 75 (undef) (by kernel_rfl) (by kernel_rfl) ?_
          refine GmT.p' 42 76 (.bool false) (by kernel_rfl) (by kernel_rfl) ?_
          refine GmT.p' 43 77 (.bool false) (by kernel_rfl) (by kernel_rfl) ?_
          refine GmT.p' 44 78 (undef) (by kernel_rfl) (by kernel_rfl) ?_
          refine GmT.p' 45 79 (undef) (by kernel_rfl) (by kernel_rfl) ?_
          refine GmT.p' 46 80 (undef) (by kernel_rfl) (by kernel_rfl) ?_
          refine GmT.p' 47 81 (.bool false) (by kernel_rfl) (by kernel_rfl) ?_
          refine GmT.p' 48 0 (.bool false) (by kernel_rfl) (by kernel_rfl) ?_
          refine GmT.done (by kernel_rfl) ?_
          have hI := hI.drop
          have hI := hI.drop
          have hI := hI.drop
          have hI := hI.drop
          have e := someS h1
          subst e
          exact Qn.thenJ fun a ha => ⟨false, Z125, rfl, ha.keep [0] (by kernel_rfl), hI, (Hp.le_refl _)⟩
        ·
         rw [if_neg hb145] at h1
         have hb145 : ((y121.length : Int) == 2) = false := by simpa using hb145
         refine GmT.keep [1, 2, 6, 9, 53] (S' := [(1, pb b1), (2, pb b2), (6, .slice A122 y121.length cp123), (9, .bool y131), (53, .bool false)]) (by simp only [hb145]; kernel_rfl) ?_
         refine GmT.p' 20 54 (undef) (by kernel_rfl) (by kernel_rfl) ?_
         refine GmT.p' 21 55 (undef) (by kernel_rfl) (by kernel_rfl) ?_
         refine GmT.p' 22 56 (undef) (by kernel_rfl) (by kernel_rfl) ?_
         refine GmT.p' 23 57 (undef) (by kernel_rfl) (by kernel_rfl) ?_
         refine GmT.p' 24 58 (undef) (by kernel_rfl) (by kernel_rfl) ?_
         refine GmT.p' 25 59 (.bool false) (by kernel_rfl) (by kernel_rfl) ?_
         refine GmT.p' 26 60 (.bool false) (by kernel_rfl) (by kernel_rfl) ?_
         refine GmT.p' 27 61 (undef) (by kernel_rfl) (by kernel_rfl) ?_
         refine GmT.p' 28 62 (undef) (by kernel_rfl) (by kernel_rfl) ?_
         refine GmT.p' 29 63 (.bool false) (by kernel_rfl) (by kernel_rfl) ?_
         refine GmT.p' 30 64 (.bool false) (by kernel_rfl) (by kernel_rfl) ?_
         refine GmT.p' 31 65 (undef) (by kernel_rfl) (by kernel_rfl) ?_
         refine GmT.p' 32 66 (undef) (by kernel_rfl) (by kernel_rfl) ?_
         refine GmT.p' 33 67 (undef) (by kernel_rfl) (by kernel_rfl) ?_
         refine GmT.p' 34 68 (undef) (by kernel_rfl) (by kernel_rfl) ?_
         refine GmT.p' 35 69 (.bool false) (by kernel_rfl) (by kernel_rfl) ?_
         refine GmT.p' 36 70 (.bool false) (by kernel_rfl) (by kernel_rfl) ?_
         refine GmT.p' 37 71 (undef) (by kernel_rfl) (by kernel_rfl) ?_
         refine GmT.p' 38 72 (undef) (by kernel_rfl) (by kernel_rfl) ?_
         refine GmT.p' 39 73 (undef) (by kernel_rfl) (by kernel_rfl) ?_
         refine GmT.p' 40 74 (undef) (by kernel_rfl) (by kernel_rfl) ?_
         refine GmT.p' 41 75 (undef) (by kernel_rfl) (by kernel_rfl) ?_
         refine GmT.p' 42 76 (.bool false) (by kernel_rfl) (by kernel_rfl) ?_
         refine GmT.p' 43 77 (.bool false) (by kernel_rfl) (by kernel_rfl) ?_
         refine GmT.p' 44 78 (undef) (by kernel_rfl) (by kernel_rfl) ?_
         refine GmT.p' 45 79 (undef) (by kernel_rfl) (by kernel_rfl) ?_
         refine GmT.p' 46 80 (undef) (by kernel_rfl) (by kernel_rfl) ?_
         refine GmT.p' 47 81 (.bool false) (by kernel_rfl) (by kernel_rfl) ?_
         refine GmT.p' 48 0 (.bool false) (by kernel_rfl) (by kernel_rfl) ?_
         refine GmT.done (by kernel_rfl) ?_
         have hI := hI.drop
         have hI := hI.drop
         have hI := hI.drop
         have hI := hI.drop
         have e := someS h1
         subst e
         exact Qn.thenJ fun a ha => ⟨false, Z125, rfl, ha.keep [0] (by kernel_rfl), hI, (Hp.le_refl _)⟩
       ·
        rw [if_neg hb144] at h1
        have hb144 : (eqA x3 x30) = false := by simpa using hb144
        refine GmT.keep [1, 2, 6, 9, 48] (S' := [(1, pb b1), (2, pb b2), (6, .slice A122 y121.length cp123), (9, .bool y131), (48, .bool false)]) (by simp only [hb144]; kernel_rfl) ?_
        refine GmT.p' 15 49 (undef) (by kernel_rfl) (by kernel_rfl) ?_
        refine GmT.p' 16 50 (undef) (by kernel_rfl) (by kernel_rfl) ?_
        refine GmT.p' 17 51 (undef) (by kernel_rfl) (by kernel_rfl) ?_
        refine GmT.p' 18 52 (.bool false) (by kernel_rfl) (by kernel_rfl) ?_
        refine GmT.p' 19 53 (.bool false) (by kernel_rfl) (by kernel_rfl) ?_
        refine GmT.p' 20 54 (undef) (by kernel_rfl) (by kernel_rfl) ?_
        refine GmT.p' 21 55 (undef) (by kernel_rfl) (by kernel_rfl) ?_
        refine GmT.p' 22 56 (undef) (by kernel_rfl) (by kernel_rfl) ?_
        refine GmT.p' 23 57 (undef) (by kernel_rfl) (by kernel_rfl) ?_
        refine GmT.p' 24 58 (undef) (by kernel_rfl) (by kernel_rfl) ?_
        refine GmT.p' 25 59 (.bool false) (by kernel_rfl) (by kernel_rfl) ?_
        refine GmT.p' 26 60 (.bool false) (by kernel_rfl) (by kernel_rfl) ?_
        refine GmT.p' 27 61 (undef) (by kernel_rfl) (by kernel_rfl) ?_
        refine GmT.p' 28 62 (undef) (by kernel_rfl) (by kernel_rfl) ?_
        refine GmT.p' 29 63 (.bool false) (by kernel_rfl) (by kernel_rfl) ?_
        refine GmT.p' 30 64 (.bool false) (by kernel_rfl) (by kernel_rfl) ?_
        refine GmT.p' 31 65 (undef) (by kernel_rfl) (by kernel_rfl) ?_
        refine GmT.p' 32 66 (undef) (by kernel_rfl) (by kernel_rfl) ?_
        refine GmT.p' 33 67 (undef) (by kernel_rfl) (by kernel_rfl) ?_
        refine GmT.p' 34 68 (undef) (by kernel_rfl) (by kernel_rfl) ?_
        refine GmT.p' 35 69 (.bool false) (by kernel_rfl) (by kernel_rfl) ?_
        refine GmT.p' 36 70 (.bool false) (by kernel_rfl) (by kernel_rfl) ?_
        refine GmT.p' 37 71 (undef) (by kernel_rfl) (by kernel_rfl) ?_
        refine GmT.p' 38 72 (undef) (by kernel_rfl) (by kernel_rfl) ?_
        refine GmT.p' 39 73 (undef) (by kernel_rfl) (by kernel_rfl) ?_
        refine GmT.p' 40 74 (undef) (by kernel_rfl) (by kernel_rfl) ?_
        refine GmT.p' 41 75 (undef) (by kernel_rfl) (by kernel_rfl) ?_
        refine GmT.p' 42 76 (.bool false) (by kernel_rfl) (by kernel_rfl) ?_
        refine GmT.p' 43 77 (.bool false) (by kernel_rfl) (by kernel_rfl) ?_
        refine GmT.p' 44 78 (undef) (by kernel_rfl) (by kernel_rfl) ?_
        refine GmT.p' 45 79 (undef) (by kernel_rfl) (by kernel_rfl) ?_
        refine GmT.p' 46 80 (undef) (by kernel_rfl) (by kernel_rfl) ?_
        refine GmT.p' 47 81 (.bool false) (by kernel_rfl) (by kernel_rfl) ?_
        refine GmT.p' 48 0 (.bool false) (by kernel_rfl) (by kernel_rfl) ?_
        refine GmT.done (by kernel_rfl) ?_
        have hI := hI.drop
        have hI := hI.drop
        have hI := hI.drop
        have hI := hI.drop
        have e := someS h1
        subst e
        exact Qn.thenJ fun a ha => ⟨false, Z125, rfl, ha.keep [0] (by kernel_rfl), hI, (Hp.le_refl _)⟩
      ·
       rw [if_neg hb143] at h1
       have hb143 : x32 = false := by simpa using hb143
       refine GmT.keep [1, 2, 4, 6, 9, 43] (S' := [(1, pb b1), (2, pb b2), (4, pb b29), (6, .slice A122 y121.length cp123), (9, .bool y131), (43, .bool false)]) (by simp only [hb143]; kernel_rfl) ?_
       refine GmT.p' 10 44 (undef) (by kernel_rfl) (by kernel_rfl) ?_
       refine GmT.p' 11 45 (undef) (by kernel_rfl) (by kernel_rfl) ?_
       refine GmT.p' 12 46 (undef) (by kernel_rfl) (by kernel_rfl) ?_
       refine GmT.p' 13 47 (.bool false) (by kernel_rfl) (by kernel_rfl) ?_
       refine GmT.p' 14 48 (.bool false) (by kernel_rfl) (by kernel_rfl) ?_
       refine GmT.p' 15 49 (undef) (by kernel_rfl) (by kernel_rfl) ?_
       refine GmT.p' 16 50 (undef) (by kernel_rfl) (by kernel_rfl) ?_
       refine GmT.p' 17 51 (undef) (by kernel_rfl) (by kernel_rfl) ?_
       refine GmT.p' 18 52 (.bool false) (by kernel_rfl) (by kernel_rfl) ?_
       refine GmT.p' 19 53 (.bool false) (by kernel_rfl) (by kernel_rfl) ?_
       refine GmT.p' 20 54 (undef) (by kernel_rfl) (by kernel_rfl) ?_
       refine GmT.p' 21 55 (undef) (by kernel_rfl) (by kernel_rfl) ?_
       refine GmT.p' 22 56 (undef) (by kernel_rfl) (by kernel_rfl) ?_
       refine GmT.p' 23 57 (undef) (by kernel_rfl) (by kernel_rfl) ?_
       refine GmT.p' 24 58 (undef) (by kernel_rfl) (by kernel_rfl) ?_
       refine GmT.p' 25 59 (.bool false) (by kernel_rfl) (by kernel_rfl) ?_
       refine GmT.p' 26 60 (.bool false) (by kernel_rfl) (by kernel_rfl) ?_
       refine GmT.p' 27 61 (undef) (by kernel_rfl) (by kernel_rfl) ?_
       refine GmT.p' 28 62 (undef) (by kernel_rfl) (by kernel_rfl) ?_
       refine GmT.p' 29 63 (.bool false) (by kernel_rfl) (by kernel_rfl) ?_
       refine GmT.p' 30 64 (.bool false) (by kernel_rfl) (by kernel_rfl) ?_
       refine GmT.p' 31 65 (undef) (by kernel_rfl) (by kernel_rfl) ?_
       refine GmT.p' 32 66 (undef) (by kernel_rfl) (by kernel_rfl) ?_
       refine GmT.p' 33 67 (undef) (by kernel_rfl) (by kernel_rfl) ?_
       refine GmT.p' 34 68 (undef) (by kernel_rfl) (by kernel_rfl) ?_
       refine GmT.p' 35 69 (.bool false) (by kernel_rfl) (by kernel_rfl) ?_
       refine GmT.p' 36 70 (.bool false) (by kernel_rfl) (by kernel_rfl) ?_
       refine GmT.p' 37 71 (undef) (by kernel_rfl) (by kernel_rfl) ?_
       refine GmT.p' 38 72 (undef) (by kernel_rfl) (by kernel_rfl) ?_
       refine GmT.p' 39 73 (undef) (by kernel_rfl) (by kernel_rfl) ?_
       refine GmT.p' 40 74 (undef) (by kernel_rfl) (by kernel_rfl) ?_
       refine GmT.p' 41 75 (undef) (by kernel_rfl) (by kernel_rfl) ?_
       refine GmT.p' 42 76 (.bool false) (by kernel_rfl) (by kernel_rfl) ?_
       refine GmT.p' 43 77 (.bool false) (by kernel_rfl) (by kernel_rfl) ?_
       refine GmT.p' 44 78 (undef) (by kernel_rfl) (by kernel_rfl) ?_
       refine GmT.p' 45 79 (undef) (by kernel_rfl) (by kernel_rfl) ?_
       refine GmT.p' 46 80 (undef) (by kernel_rfl) (by kernel_rfl) ?_
       refine GmT.p' 47 81 (.bool false) (by kernel_rfl) (by kernel_rfl) ?_
       refine GmT.p' 48 0 (.bool false) (by kernel_rfl) (by kernel_rfl) ?_
       refine GmT.done (by kernel_rfl) ?_
       have hI := hI.drop
       have hI := hI.drop
       have hI := hI.drop
       have hI := hI.drop
       have e := someS h1
       subst e
       exact Qn.thenJ fun a ha => ⟨false, Z125, rfl, ha.keep [0] (by kernel_rfl), hI, (Hp.le_refl _)⟩
     ·
      rw [if_neg hb142] at h1
      have hb142 : x5 = false := by simpa using hb142
      refine GmT.keep [1, 2, 4, 5, 6, 9, 40] (S' := [(1, pb b1), (2, pb b2), (4, pb b29), (5, .bool x32), (6, .slice A122 y121.length cp123), (9, .bool y131), (40, .bool false)]) (by simp only [hb142]; kernel_rfl) ?_
      refine GmT.p' 7 41 (undef) (by kernel_rfl) (by kernel_rfl) ?_
      refine GmT.p' 8 42 (.bool false) (by kernel_rfl) (by kernel_rfl) ?_
      refine GmT.p' 9 43 (.bool false) (by kernel_rfl) (by kernel_rfl) ?_
      refine GmT.p' 10 44 (undef) (by kernel_rfl) (by kernel_rfl) ?_
      refine GmT.p' 11 45 (undef) (by kernel_rfl) (by kernel_rfl) ?_
      refine GmT.p' 12 46 (undef) (by kernel_rfl) (by kernel_rfl) ?_
      refine GmT.p' 13 47 (.bool false) (by kernel_rfl) (by kernel_rfl) ?_
      refine GmT.p' 14 48 (.bool false) (by kernel_rfl) (by kernel_rfl) ?_
      refine GmT.p' 15 49 (undef) (by kernel_rfl) (by kernel_rfl) ?_
      refine GmT.p' 16 50 (undef) (by kernel_rfl) (by kernel_rfl) ?_
      refine GmT.p' 17 51 (undef) (by kernel_rfl) (by kernel_rfl) ?_
      refine GmT.p' 18 52 (.bool false) (by kernel_rfl) (by kernel_rfl) ?_
      refine GmT.p' 19 53 (.bool false) (by kernel_rfl) (by kernel_rfl) ?_
      refine GmT.p' 20 54 (undef) (by kernel_rfl) (by kernel_rfl) ?_
      refine GmT.p' 21 55 (undef) (by kernel_rfl) (by kernel_rfl) ?_
      refine GmT.p' 22 56 (undef) (by kernel_rfl) (by kernel_rfl) ?_
      refine GmT.p' 23 57 (undef) (by kernel_rfl) (by kernel_rfl) ?_
      refine GmT.p' 24 58 (undef) (by kernel_rfl) (by kernel_rfl) ?_
      refine GmT.p' 25 59 (.bool false) (by kernel_rfl) (by kernel_rfl) ?_
      refine GmT.p' 26 60 (.bool false) (by kernel_rfl) (by kernel_rfl) ?_
      refine GmT.p' 27 61 (undef) (by kernel_rfl) (by kernel_rfl) ?_
      refine GmT.p' 28 62 (undef) (by kernel_rfl) (by kernel_rfl) ?_
      refine GmT.p' 29 63 (.bool false) (by kernel_rfl) (by kernel_rfl) ?_
      refine GmT.p' 30 64 (.bool false) (by kernel_rfl) (by kernel_rfl) ?_
      refine GmT.p' 31 65 (undef) (by kernel_rfl) (by kernel_rfl) ?_
      refine GmT.p' 32 66 (undef) (by kernel_rfl) (by kernel_rfl) ?_
      refine GmT.p' 33 67 (undef) (by kernel_rfl) (by kernel_rfl) ?_
      refine GmT.p' 34 68 (undef) (by kernel_rfl) (by kernel_rfl) ?_
      refine GmT.p' 35 69 (.bool false) (by kernel_rfl) (by kernel_rfl) ?_
      refine GmT.p' 36 70 (.bool false) (by kernel_rfl) (by kernel_rfl) ?_
      refine GmT.p' 37 71 (undef) (by kernel_rfl) (by kernel_rfl) ?_
      refine GmT.p' 38 72 (undef) (by kernel_rfl) (by kernel_rfl) ?_
      refine GmT.p' 39 73 (undef) (by kernel_rfl) (by kernel_rfl) ?_
      refine GmT.p' 40 74 (undef) (by kernel_rfl) (by kernel_rfl) ?_
      refine GmT.p' 41 75 (undef) (by kernel_rfl) (by kernel_rfl) ?_
      refine GmT.p' 42 76 (.bool false) (by kernel_rfl) (by kernel_rfl) ?_
      refine GmT.p' 43 77 (.bool false) (by kernel_rfl) (by kernel_rfl) ?_
      refine GmT.p' 44 78 (undef) (by kernel_rfl) (by kernel_rfl) ?_
      refine GmT.p' 45 79 (undef) (by kernel_rfl) (by kernel_rfl) ?_
      refine GmT.p' 46 80 (undef) (by kernel_rfl) (by kernel_rfl) ?_
      refine GmT.p' 47 81 (.bool false) (by kernel_rfl) (by kernel_rfl) ?_
      refine GmT.p' 48 0 (.bool false) (by kernel_rfl) (by kernel_rfl) ?_
      refine GmT.done (by kernel_rfl) ?_
      have hI := hI.drop
      have hI := hI.drop
      have hI := hI.drop
      have hI := hI.drop
      have e := someS h1
      subst e
      exact Qn.thenJ fun a ha => ⟨false, Z125, rfl, ha.keep [0] (by kernel_rfl), hI, (Hp.le_refl _)⟩
    ·
     rw [if_neg hb141] at h1
     have hb141 : (eqA y136 y139) = false := by simpa using hb141
     refine GmT.keep [1, 2, 3, 4, 5, 6, 9, 37] (S' := [(1, pb b1), (2, pb b2), (3, .bool x5), (4, pb b29), (5, .bool x32), (6, .slice A122 y121.length cp123), (9, .bool y131), (37, .bool false)]) (by simp only [hb141]; kernel_rfl) ?_
     refine GmT.p' 4 38 (undef) (by kernel_rfl) (by kernel_rfl) ?_
     refine GmT.p' 5 39 (.bool false) (by kernel_rfl) (by kernel_rfl) ?_
     refine GmT.p' 6 40 (.bool false) (by kernel_rfl) (by kernel_rfl) ?_
     refine GmT.p' 7 41 (undef) (by kernel_rfl) (by kernel_rfl) ?_
     refine GmT.p' 8 42 (.bool false) (by kernel_rfl) (by kernel_rfl) ?_
     refine GmT.p' 9 43 (.bool false) (by kernel_rfl) (by kernel_rfl) ?_
     refine GmT.p' 10 44 (undef) (by kernel_rfl) (by kernel_rfl) ?_
     refine GmT.p' 11 45 (undef) (by kernel_rfl) (by kernel_rfl) ?_
     refine GmT.p' 12 46 (undef) (by kernel_rfl) (by kernel_rfl) ?_
     refine GmT.p' 13 47 (.bool false) (by kernel_rfl) (by kernel_rfl) ?_
     refine GmT.p' 14 48 (.bool false) (by kernel_rfl) (by kernel_rfl) ?_
     refine GmT.p' 15 49 (undef) (by kernel_rfl) (by kernel_rfl) ?_
     refine GmT.p' 16 50 (undef) (by kernel_rfl) (by kernel_rfl) ?_
     refine GmT.p' 17 51 (undef) (by kernel_rfl) (by kernel_rfl) ?_
     refine GmT.p' 18 52 (.bool false) (by kernel_rfl) (by kernel_rfl) ?_
     refine GmT.p' 19 53 (.bool false) (by kernel_rfl) (by kernel_rfl) ?_
     refine GmT.p' 20 54 (undef) (by kernel_rfl) (by kernel_rfl) ?_
     refine GmT.p' 21 55 (undef) (by kernel_rfl) (by kernel_rfl) ?_
     refine GmT.p' 22 56 (undef) (by kernel_rfl) (by kernel_rfl) ?_
     refine GmT.p' 23 57 (undef) (by kernel_rfl) (by kernel_rfl) ?_
     refine GmT.p' 24 58 (undef) (by kernel_rfl) (by kernel_rfl) ?_
     refine GmT.p' 25 59 (.bool false) (by kernel_rfl) (by kernel_rfl) ?_
     refine GmT.p' 26 60 (.bool false) (by kernel_rfl) (by kernel_rfl) ?_
     refine GmT.p' 27 61 (undef) (by kernel_rfl) (by kernel_rfl) ?_
     refine GmT.p' 28 62 (undef) (by kernel_rfl) (by kernel_rfl) ?_
     refine GmT.p' 29 63 (.bool false) (by kernel_rfl) (by kernel_rfl) ?_
     refine GmT.p' 30 64 (.bool false) (by kernel_rfl) (by kernel_rfl) ?_
     refine GmT.p' 31 65 (undef) (by kernel_rfl) (by kernel_rfl) ?_
     refine GmT.p' 32 66 (undef) (by kernel_rfl) (by kernel_rfl) ?_
     refine GmT.p' 33 67 (undef) (by kernel_rfl) (by kernel_rfl) ?_
     refine GmT.p' 34 68 (undef) (by kernel_rfl) (by kernel_rfl) ?_
     refine GmT.p' 35 69 (.bool false) (by kernel_rfl) (by kernel_rfl) ?_
     refine GmT.p' 36 70 (.bool false) (by kernel_rfl) (by kernel_rfl) ?_
     refine GmT.p' 37 71 (undef) (by kernel_rfl) (by kernel_rfl) ?_
     refine GmT.p' 38 72 (undef) (by kernel_rfl) (by kernel_rfl) ?_
     refine GmT.p' 39 73 (undef) (by kernel_rfl) (by kernel_rfl) ?_
     refine GmT.p' 40 74 (undef) (by kernel_rfl) (by kernel_rfl) ?_
     refine GmT.p' 41 75 (undef) (by kernel_rfl) (by kernel_rfl) ?_
     refine GmT.p' 42 76 (.bool false) (by kernel_rfl) (by kernel_rfl) ?_
     refine GmT.p' 43 77 (.bool false) (by kernel_rfl) (by kernel_rfl) ?_
     refine GmT.p' 44 78 (undef) (by kernel_rfl) (by kernel_rfl) ?_
     refine GmT.p' 45 79 (undef) (by kernel_rfl) (by kernel_rfl) ?_
     refine GmT.p' 46 80 (undef) (by kernel_rfl) (by kernel_rfl) ?_
     refine GmT.p' 47 81 (.bool false) (by kernel_rfl) (by kernel_rfl) ?_
     refine GmT.p' 48 0 (.bool false) (by kernel_rfl) (by kernel_rfl) ?_
     refine GmT.done (by kernel_rfl) ?_
     have hI := hI.drop
     have hI := hI.drop
     have hI := hI.drop
     have hI := hI.drop
     have e := someS h1
     subst e
     exact Qn.thenJ fun a ha => ⟨false, Z125, rfl, ha.keep [0] (by kernel_rfl), hI, (Hp.le_refl _)⟩
   ·
    rintro a w ⟨x134, Z132, rfl, ha, hI, hle133⟩
    try dsimp only at h0
    refine CodT.of ?_ ha
    refine CodT.ret ?_
    have e := someS h0
    subst e
    refine qK [0] (S' := [(0, .bool x134)]) (by kernel_rfl) ?_
    exact post_ret (v := .bool x134) (fun a ha => RunRes.run (vs := [.bool x134]) (.tmp (t := 0) (by kernel_rfl) .nil) ha (by kernel_rfl)) ⟨rfl, hI.weaken (Hp.le_trans (Hp.le_trans (Hp.le_trans hle28 hle118) hle126) hle133)⟩
/-- cenotaph/cenotaphlaw06.Few -/
theorem c9 (w0 w : World) (Z : Hp) (A : HP) (hI : Inv w0 Z w A) (A_a0 : Option Addr) (c_a0 : Nat) (a0 : (List ApiEvent)) (hr_a0 : RdS Z c_ApiEvent 37 A_a0 c_a0 a0) (r : Bool) (h0 : law06_Few a0 = some r) :
  Calls prog 9 #[.slice A_a0 a0.length c_a0] w (fun e w' => e = .returned (.bool r) ∧ Inv w0 Z w' A) := by
 have e4 := calls_intro (R := (fun e w' => e = .returned (.bool r) ∧ Inv w0 Z w' A)) (w := w) (args := [.slice A_a0 a0.length c_a0]) (fn := Go.Proofs.Try.f9) 24 Go.Proofs.Try.func9 (by rfl) Go.Proofs.Try.ntmps9 (by kernel_rfl)
 refine e4 ?_
 clear e4
 unfold law06_Few at h0
 refine cQ ?_
 refine cR [0] (by kernel_rfl) ?_
 refine oP (r := []) [0] (S' := [(0, .slice A_a0 a0.length c_a0)]) (by kernel_rfl) ?_
 refine oD ?_
 refine qT ?_
 refine cQ ?_
 refine cQ ?_
 refine cR [0] (by kernel_rfl) ?_
 refine oP (r := []) [0] (S' := [(0, .slice A_a0 a0.length c_a0), (3, iv 0)]) (by kernel_rfl) ?_
 refine oD ?_
 refine qT ?_
 obtain ⟨r1, h1, h0⟩ := bindS h0
 refine CodT.meet1 (fun a w => .inr () = r1 ∧ Fr 24 [(0, .slice A_a0 a0.length c_a0)] a ∧ Inv w0 Z w A) ?_ ?_
 ·
  refine CodT.block ?_
  refine (fun a ha => wp_loopN (fun k a w => ∃ (x1 : Int), law06_Few.l0 a0 k x1 = some r1 ∧ Fr 24 [(0, .slice A_a0 a0.length c_a0), (3, iv x1)] a ∧ Inv w0 Z w A) ?_ FU a w ⟨0, h1, ha.keep [0, 3] (by kernel_rfl), hI⟩)
  clear h1 hI
  rintro k a w ⟨x1, h1, ha, hI⟩
  rcases k with _ | k
  ·
   cases h1
  simp only [law06_Few.l0] at h1
  refine CodT.of ?_ ha
  refine cQ ?_
  obtain ⟨r2, h2, h1⟩ := bindS h1
  refine CodT.meet (fun a w => ∃ (x2 : Bool), x2 = r2 ∧ Fr 24 [(0, .slice A_a0 a0.length c_a0), (3, iv x1), (11, .bool x2)] a ∧ Inv w0 Z w A) ?_ ?_
  ·
   refine cR [0, 1, 2, 3, 4, 5, 6, 7] (by kernel_rfl) ?_
   refine oP (r := [5, 6, 7]) [0, 1, 2, 3, 4] (S' := [(0, .slice A_a0 a0.length c_a0), (3, iv x1), (8, .bool (decide (x1 < (a0.length : Int))))]) (by kernel_rfl) ?_
   by_cases hb3 : (decide (x1 < (a0.length : Int))) = true
   ·
    rw [if_pos hb3] at h2
    refine oK [0, 3, 8] (S' := [(0, .slice A_a0 a0.length c_a0), (3, iv x1), (8, .bool true)]) (by simp only [hb3]; kernel_rfl) ?_
    refine oP (r := []) [5, 6, 7] (S' := [(0, .slice A_a0 a0.length c_a0), (3, iv x1), (11, .bool (decide (x1 ≤ 20)))]) (by kernel_rfl) ?_
    refine oD ?_
    have e := someS h2
    subst e
    exact Qn.thenJ fun a ha => ⟨decide (x1 ≤ 20), rfl, ha.keep [0, 3, 11] (by kernel_rfl), hI⟩
   ·
    rw [if_neg hb3] at h2
    have hb3 : (decide (x1 < (a0.length : Int))) = false := by simpa using hb3
    refine oK [0, 3, 8] (S' := [(0, .slice A_a0 a0.length c_a0), (3, iv x1), (8, .bool false)]) (by simp only [hb3]; kernel_rfl) ?_
    refine oP (r := []) [5, 6, 7] (S' := [(0, .slice A_a0 a0.length c_a0), (3, iv x1), (11, .bool false)]) (by kernel_rfl) ?_
    refine oD ?_
    have e := someS h2
    subst e
    exact Qn.thenJ fun a ha => ⟨false, rfl, ha.keep [0, 3, 11] (by kernel_rfl), hI⟩
  ·
   rintro a w ⟨x2, rfl, ha, hI⟩
   try dsimp only at h1
   refine CodT.of ?_ ha
   by_cases hb4 : x2 = true
   ·
    rw [if_pos hb4] at h1
    refine CodT.yes' (b := x2) (by kernel_rfl) hb4 ?_
    refine CodT.skip ?_
    refine qT ?_
    refine cQ ?_
    refine CodT.block ?_
    refine cQ ?_
    refine cR [0, 1, 2, 3, 4, 5, 6] (by kernel_rfl) ?_
    refine oP (r := [2, 3, 4, 5, 6]) [0, 1] (S' := [(0, .slice A_a0 a0.length c_a0), (3, iv x1), (14, .slice A_a0 a0.length c_a0), (15, iv x1)]) (by kernel_rfl) ?_
    obtain ⟨hg5, h1⟩ := guardS h1
    obtain ⟨g6, o10, hA7, hr8, hl9⟩ := RdS.get hr_a0 hg5.1 hg5.2
    refine oC (Does.yi (Yl.indexSlice (d := 16) (T := 22) (cc := c_a0) (k := .i64) (j := x1) (g := g6) (o := o10) (by kernel_rfl) Go.Proofs.Try.underlying22 ty42 hA7 hg5.1 hg5.2) hI ?_)
    refine oP (r := [4, 5, 6]) [3] (S' := [(0, .slice A_a0 a0.length c_a0), (3, iv x1), (17, .pointer (some ⟨g6, o10 + x1.toNat * 37 + 2, none⟩))]) (by kernel_rfl) ?_
    refine oC (Does.yi (Yl.load (d := 18) (T := 9) (v := .string ((gt a0 x1).Name)) (by kernel_rfl) (ldR ty9 (v := .string ((gt a0 x1).Name)) 2 (fun w hC => hr8 w0 w _ hC) (by kernel_rfl))) hI ?_)
    refine oP (r := []) [5, 6] (S' := [(0, .slice A_a0 a0.length c_a0), (3, iv x1), (20, .bool (decide ((((gt a0 x1).Name).size : Int) > 100)))]) (by kernel_rfl) ?_
    refine oD ?_
    refine qT ?_
    by_cases hb11 : (decide ((((gt a0 x1).Name).size : Int) > 100)) = true
    ·
     rw [if_pos hb11] at h1
     refine CodT.yes' (b := decide ((((gt a0 x1).Name).size : Int) > 100)) (by kernel_rfl) hb11 ?_
     refine cQ ?_
     refine cR [0] (by kernel_rfl) ?_
     refine oP (r := []) [0] (S' := [(2, .bool false)]) (by kernel_rfl) ?_
     refine oD ?_
     refine qT ?_
     refine CodT.ret ?_
     refine Qn.block_ret ?_
     refine Qn.ret_then ?_
     refine Qn.ret_then ?_
     refine Qn.block_ret ?_
     refine Qn.ret_then ?_
     refine Qn.ret_then ?_
     have e := someS h1
     subst e
     try dsimp only at h0
     have e := someS h0
     subst e
     refine qK [2] (S' := [(2, .bool false)]) (by kernel_rfl) ?_
     exact post_ret (v := .bool false) (fun a ha => RunRes.run (vs := [.bool false]) (.tmp (t := 2) (by kernel_rfl) .nil) ha (by kernel_rfl)) ⟨rfl, hI⟩
    ·
     rw [if_neg hb11] at h1
     refine CodT.no' (b := decide ((((gt a0 x1).Name).size : Int) > 100)) (by kernel_rfl) (by simpa using hb11) ?_
     refine CodT.skip ?_
     refine Qn.block_normal ?_
     refine qT ?_
     refine cR [0, 1, 2] (by kernel_rfl) ?_
     refine oP (r := []) [0, 1, 2] (S' := [(0, .slice A_a0 a0.length c_a0), (3, iv (wi64 (x1 + 1)))]) (by kernel_rfl) ?_
     refine oD ?_
     exact Qn.thenJ fun a ha => ⟨k, Nat.lt_succ_self k, wi64 (x1 + 1), h1, ha.keep [0, 3] (by kernel_rfl), hI⟩
   ·
    rw [if_neg hb4] at h1
    refine CodT.no' (b := x2) (by kernel_rfl) (by simpa using hb4) ?_
    refine CodT.exit ?_
    refine Qn.exit_then ?_
    refine Qn.exit_then ?_
    refine Qn.block ?_
    have e := someS h1
    subst e
    exact Qn.thenJ fun a ha => ⟨rfl, ha.keep [0] (by kernel_rfl), hI⟩
 ·
  rintro a w ⟨rfl, ha, hI⟩
  try dsimp only at h0
  refine Qn.of ?_ ha
  refine qT ?_
  refine cQ ?_
  refine cR [0, 1, 2, 3] (by kernel_rfl) ?_
  refine oP (r := []) [0, 1, 2, 3] (S' := [(2, .bool (decide ((a0.length : Int) ≤ 20)))]) (by kernel_rfl) ?_
  refine oD ?_
  refine qT ?_
  refine CodT.ret ?_
  have e := someS h0
  subst e
  refine qK [2] (S' := [(2, .bool (decide ((a0.length : Int) ≤ 20)))]) (by kernel_rfl) ?_
  exact post_ret (v := .bool (decide ((a0.length : Int) ≤ 20))) (fun a ha => RunRes.run (vs := [.bool (decide ((a0.length : Int) ≤ 20))]) (.tmp (t := 2) (by kernel_rfl) .nil) ha (by kernel_rfl)) ⟨rfl, hI⟩
/-- cenotaph/cenotaphref02.roots -/
theorem c68 (w0 w : World) (Z : Hp) (A : HP) (hI : Inv w0 Z w A)  (r : (List Int)) (h0 : ref02_roots = some r) :
  Calls prog 68 #[] w (fun e w' => e = .returned (.agg (cA (Value.int .u32) r).toArray) ∧ r.length = 8 ∧ Inv w0 Z w' A) := by
 have e4 := calls_intro (R := (fun e w' => e = .returned (.agg (cA (Value.int .u32) r).toArray) ∧ r.length = 8 ∧ Inv w0 Z w' A)) (w := w) (args := []) (fn := Go.Proofs.Try.f68) 2 Go.Proofs.Try.func68 (by rfl) Go.Proofs.Try.ntmps68 (by kernel_rfl)
 refine e4 ?_
 clear e4
 unfold ref02_roots at h0
 refine cQ ?_
 refine cR [0] (by kernel_rfl) ?_
 refine oC (Does.allocL (d := 0) (T := 53) (cA (Value.int .u32) (List.replicate 8 (0 : Int))) (by kernel_rfl) ty53 hI (by kernel_rfl) ?_)
 intro b1 w hI
 refine oD ?_
 refine qT ?_
 refine cQ ?_
 refine cR [0, 1] (by kernel_rfl) ?_
 refine oP (r := [1]) [0] (S' := [(0, pb b1), (1, .agg (cA (Value.int .u32) ([1779033703, 3144134277, 1013904242, 2773480762, 1359893119, 2600822924, 528734635, 1541459225] : List Int)).toArray)]) (by kernel_rfl) ?_
 refine oC (Does.storeAll (T := 53) (b := b1) (n := 8) (xs := (List.replicate 8 (0 : Int))) (ys := ([1779033703, 3144134277, 1013904242, 2773480762, 1359893119, 2600822924, 528734635, 1541459225] : List Int)) (by kernel_rfl) ty53 hI (fun _ => rfl) (by kernel_rfl) (by kernel_rfl) ?_)
 intro w hI
 refine oD ?_
 refine qT ?_
 refine CodT.ret ?_
 have hL2 := (ldBN ty53 (l := cA (Value.int .u32) ([1779033703, 3144134277, 1013904242, 2773480762, 1359893119, 2600822924, 528734635, 1541459225] : List Int)) (o := 0) (cs := cA (Value.int .u32) ([1779033703, 3144134277, 1013904242, 2773480762, 1359893119, 2600822924, 528734635, 1541459225] : List Int)) (ent_refl _) ((cA_length _ _).trans (by kernel_rfl)) (whole _ _ ((cA_length _ _).trans (by kernel_rfl)))) w hI
 have hI := hI.drop
 have e := someS h0
 subst e
 refine qK [0] (S' := [(0, pb b1)]) (by kernel_rfl) ?_
 exact post_ret (v := .agg (cA (Value.int .u32) ([1779033703, 3144134277, 1013904242, 2773480762, 1359893119, 2600822924, 528734635, 1541459225] : List Int)).toArray) (fun a ha => RunRes.run (vs := [.agg (cA (Value.int .u32) ([1779033703, 3144134277, 1013904242, 2773480762, 1359893119, 2600822924, 528734635, 1541459225] : List Int)).toArray]) (.cell (t := 0) (T := 53) (ad := ⟨b1, 0, none⟩) (by kernel_rfl) hL2 .nil) ha (by kernel_rfl)) ⟨rfl, (by kernel_rfl), hI⟩
/-- cenotaph/cenotaphref02.cubes -/
theorem c69 (w0 w : World) (Z : Hp) (A : HP) (hI : Inv w0 Z w A)  (r : (List Int)) (h0 : ref02_cubes = some r) :
  Calls prog 69 #[] w (fun e w' => e = .returned (.agg (cA (Value.int .u32) r).toArray) ∧ r.length = 64 ∧ Inv w0 Z w' A) := by
 have e4 := calls_intro (R := (fun e w' => e = .returned (.agg (cA (Value.int .u32) r).toArray) ∧ r.length = 64 ∧ Inv w0 Z w' A)) (w := w) (args := []) (fn := Go.Proofs.Try.f69) 2 Go.Proofs.Try.func69 (by rfl) Go.Proofs.Try.ntmps69 (by kernel_rfl)
 refine e4 ?_
 clear e4
 unfold ref02_cubes at h0
 refine cQ ?_
 refine cR [0] (by kernel_rfl) ?_
 refine oC (Does.allocL (d := 0) (T := 54) (cA (Value.int .u32) (List.replicate 64 (0 : Int))) (by kernel_rfl) ty54 hI (by kernel_rfl) ?_)
 intro b1 w hI
 refine oD ?_
 refine qT ?_
 refine cQ ?_
 refine cR [0, 1] (by kernel_rfl) ?_
 refine oP (r := [1]) [0] (S' := [(0, pb b1), (1, .agg (cA (Value.int .u32) ([1116352408, 1899447441, 3049323471, 3921009573, 961987163, 1508970993, 2453635748, 2870763221, 3624381080, 310598401, 607225278, 1426881987, 1925078388, 2162078206, 2614888103, 3248222580, 3835390401, 4022224774, 264347078, 604807628, 770255983, 1249150122, 1555081692, 1996064986, 2554220882, 2821834349, 2952996808, 3210313671, 3336571891, 3584528711, 113926993, 338241895, 666307205, 773529912, 1294757372, 1396182291, 1695183700, 1986661051, 2177026350, 2456956037, 2730485921, 2820302411, 3259730800, 3345764771, 3516065817, 3600352804, 4094571909, 275423344, 430227734, 506948616, 659060556, 883997877, 958139571, 1322822218, 1537002063, 1747873779, 1955562222, 2024104815, 2227730452, 2361852424, 2428436474, 2756734187, 3204031479, 3329325298] : List Int)).toArray)]) (by kernel_rfl) ?_
 refine oC (Does.storeAll (T := 54) (b := b1) (n := 64) (xs := (List.replicate 64 (0 : Int))) (ys := ([1116352408, 1899447441, 3049323471, 3921009573, 961987163, 1508970993, 2453635748, 2870763221, 3624381080, 310598401, 607225278, 1426881987, 1925078388, 2162078206, 2614888103, 3248222580, 3835390401, 4022224774, 264347078, 604807628, 770255983, 1249150122, 1555081692, 1996064986, 2554220882, 2821834349, 2952996808, 3210313671, 3336571891, 3584528711, 113926993, 338241895, 666307205, 773529912, 1294757372, 1396182291, 1695183700, 1986661051, 2177026350, 2456956037, 2730485921, 2820302411, 3259730800, 3345764771, 3516065817, 3600352804, 4094571909, 275423344, 430227734, 506948616, 659060556, 883997877, 958139571, 1322822218, 1537002063, 1747873779, 1955562222, 2024104815, 2227730452, 2361852424, 2428436474, 2756734187, 3204031479, 3329325298] : List Int)) (by kernel_rfl) ty54 hI (fun _ => rfl) (by kernel_rfl) (by kernel_rfl) ?_)
 intro w hI
 refine oD ?_
 refine qT ?_
 refine CodT.ret ?_
 have hL2 := (ldBN ty54 (l := cA (Value.int .u32) ([1116352408, 1899447441, 3049323471, 3921009573, 961987163, 1508970993, 2453635748, 2870763221, 3624381080, 310598401, 607225278, 1426881987, 1925078388, 2162078206, 2614888103, 3248222580, 3835390401, 4022224774, 264347078, 604807628, 770255983, 1249150122, 1555081692, 1996064986, 2554220882, 2821834349, 2952996808, 3210313671, 3336571891, 3584528711, 113926993, 338241895, 666307205, 773529912, 1294757372, 1396182291, 1695183700, 1986661051, 2177026350, 2456956037, 2730485921, 2820302411, 3259730800, 3345764771, 3516065817, 3600352804, 4094571909, 275423344, 430227734, 506948616, 659060556, 883997877, 958139571, 1322822218, 1537002063, 1747873779, 1955562222, 2024104815, 2227730452, 2361852424, 2428436474, 2756734187, 3204031479, 3329325298] : List Int)) (o := 0) (cs := cA (Value.int .u32) ([1116352408, 1899447441, 3049323471, 3921009573, 961987163, 1508970993, 2453635748, 2870763221, 3624381080, 310598401, 607225278, 1426881987, 1925078388, 2162078206, 2614888103, 3248222580, 3835390401, 4022224774, 264347078, 604807628, 770255983, 1249150122, 1555081692, 1996064986, 2554220882, 2821834349, 2952996808, 3210313671, 3336571891, 3584528711, 113926993, 338241895, 666307205, 773529912, 1294757372, 1396182291, 1695183700, 1986661051, 2177026350, 2456956037, 2730485921, 2820302411, 3259730800, 3345764771, 3516065817, 3600352804, 4094571909, 275423344, 430227734, 506948616, 659060556, 883997877, 958139571, 1322822218, 1537002063, 1747873779, 1955562222, 2024104815, 2227730452, 2361852424, 2428436474, 2756734187, 3204031479, 3329325298] : List Int)) (ent_refl _) ((cA_length _ _).trans (by kernel_rfl)) (whole _ _ ((cA_length _ _).trans (by kernel_rfl)))) w hI
 have hI := hI.drop
 have e := someS h0
 subst e
 refine qK [0] (S' := [(0, pb b1)]) (by kernel_rfl) ?_
 exact post_ret (v := .agg (cA (Value.int .u32) ([1116352408, 1899447441, 3049323471, 3921009573, 961987163, 1508970993, 2453635748, 2870763221, 3624381080, 310598401, 607225278, 1426881987, 1925078388, 2162078206, 2614888103, 3248222580, 3835390401, 4022224774, 264347078, 604807628, 770255983, 1249150122, 1555081692, 1996064986, 2554220882, 2821834349, 2952996808, 3210313671, 3336571891, 3584528711, 113926993, 338241895, 666307205, 773529912, 1294757372, 1396182291, 1695183700, 1986661051, 2177026350, 2456956037, 2730485921, 2820302411, 3259730800, 3345764771, 3516065817, 3600352804, 4094571909, 275423344, 430227734, 506948616, 659060556, 883997877, 958139571, 1322822218, 1537002063, 1747873779, 1955562222, 2024104815, 2227730452, 2361852424, 2428436474, 2756734187, 3204031479, 3329325298] : List Int)).toArray) (fun a ha => RunRes.run (vs := [.agg (cA (Value.int .u32) ([1116352408, 1899447441, 3049323471, 3921009573, 961987163, 1508970993, 2453635748, 2870763221, 3624381080, 310598401, 607225278, 1426881987, 1925078388, 2162078206, 2614888103, 3248222580, 3835390401, 4022224774, 264347078, 604807628, 770255983, 1249150122, 1555081692, 1996064986, 2554220882, 2821834349, 2952996808, 3210313671, 3336571891, 3584528711, 113926993, 338241895, 666307205, 773529912, 1294757372, 1396182291, 1695183700, 1986661051, 2177026350, 2456956037, 2730485921, 2820302411, 3259730800, 3345764771, 3516065817, 3600352804, 4094571909, 275423344, 430227734, 506948616, 659060556, 883997877, 958139571, 1322822218, 1537002063, 1747873779, 1955562222, 2024104815, 2227730452, 2361852424, 2428436474, 2756734187, 3204031479, 3329325298] : List Int)).toArray]) (.cell (t := 0) (T := 54) (ad := ⟨b1, 0, none⟩) (by kernel_rfl) hL2 .nil) ha (by kernel_rfl)) ⟨rfl, (by kernel_rfl), hI⟩
/-- cenotaph/cenotaphref02.Pad -/
theorem c70 (w0 w : World) (Z : Hp) (A : HP) (hI : Inv w0 Z w A) (a0 : ByteArray) (r : ByteArray) (h0 : ref02_Pad a0 = some r) :
  Calls prog 70 #[.string a0] w (fun e w' => e = .returned (.string r) ∧ Inv w0 Z w' A) := by
 have e4 := calls_intro (R := (fun e w' => e = .returned (.string r) ∧ Inv w0 Z w' A)) (w := w) (args := [.string a0]) (fn := Go.Proofs.Try.f70) 39 Go.Proofs.Try.func70 (by rfl) Go.Proofs.Try.ntmps70 (by kernel_rfl)
 refine e4 ?_
 clear e4
 unfold ref02_Pad at h0
 refine cQ ?_
 refine cR [0] (by kernel_rfl) ?_
 refine oP (r := []) [0] (S' := [(0, .string a0)]) (by kernel_rfl) ?_
 refine oD ?_
 refine qT ?_
 refine cQ ?_
 refine cR [0, 1, 2] (by kernel_rfl) ?_
 refine oP (r := [1, 2]) [0] (S' := [(0, .string a0), (7, .string a0)]) (by kernel_rfl) ?_
 obtain ⟨hg1, h0⟩ := guardS h0
 refine oC (Does.s2b (d := 8) (src := 9) (dst := 45) (s := a0) (by kernel_rfl) Go.Proofs.Try.underlying9 Go.Proofs.Try.underlying45 Go.Proofs.Try.underlying5 (Nat.le_trans hg1 (by decide)) hI ?_)
 intro A2 cp3 w hI
 refine oP (r := []) [2] (S' := [(0, .string a0), (3, .slice A2 ((byts a0).length) cp3)]) (by kernel_rfl) ?_
 refine oD ?_
 refine qT ?_
 refine cQ ?_
 refine cR [0, 1, 2, 3] (by kernel_rfl) ?_
 refine oP (r := [1, 2, 3]) [0] (S' := [(0, .string a0), (9, .slice A2 ((byts a0).length) cp3)]) (by kernel_rfl) ?_
 refine oC (Does.buildSlice (en := (cI .u8)) (d := 10) (n := 1) (T := 45) (ps := [(0, .int .u8 128)]) ([128] : List Int) (by kernel_rfl) Go.Proofs.Try.underlying45 ty5 (by kernel_rfl) (by kernel_rfl) (by kernel_rfl) (by kernel_rfl) (len_all (fun _ => rfl)) hI ?_)
 intro b4 w hI
 obtain ⟨hg5, h0⟩ := guardS h0
 have hI := hI.mono (pick2 _ _ _)
 refine oC (Does.append (d := 11) (t := 45) (tx := 45) (ty := 45) (ys := byts a0) (zs := ([128] : List Int)) (x := .slice (some ⟨b4, 0, none⟩) (([128] : List Int).length) 1) (by kernel_rfl) Go.Proofs.Try.underlying45 ty5 (by kernel_rfl) hI (src_own Go.Proofs.Try.underlying45 (hI.mono (pick2 _ _ _)) (one_flat _ (fun _ => rfl))) (ownS_facts (hI.mono (pick2 _ _ _))).2.2 (by unfold LIM at hg5; omega) hg5 ?_)
 intro A6 cp7 w hI
 refine oP (r := []) [3] (S' := [(0, .string a0), (3, .slice A6 (((byts a0) ++ ([128] : List Int)).length) cp7)]) (by kernel_rfl) ?_
 refine oD ?_
 refine qT ?_
 refine cQ ?_
 obtain ⟨r1, h1, h0⟩ := bindS h0
 refine CodT.meet1 (fun a w => ∃ (x8 : (List Int)) (A9 : Option Addr) (cp10 : Nat), x8 = r1 ∧ Fr 39 [(0, .string a0), (3, .slice A9 x8.length cp10)] a ∧ Inv w0 Z w (star (ownS 5 (cI .u8) 1 A9 cp10 x8) A)) ?_ ?_
 ·
  refine CodT.block ?_
  have hI := hI.mono (pick2 _ _ _)
  have hI := hI.drop
  refine (fun a ha => wp_loopN (fun k a w => ∃ (x11 : (List Int)) (A12 : Option Addr) (cp13 : Nat), ref02_Pad.l0 k x11 = some r1 ∧ Fr 39 [(0, .string a0), (3, .slice A12 x11.length cp13)] a ∧ Inv w0 Z w (star (ownS 5 (cI .u8) 1 A12 cp13 x11) A)) ?_ FU a w ⟨(byts a0) ++ ([128] : List Int), A6, cp7, h1, ha.keep [0, 3] (by kernel_rfl), hI⟩)
  clear h1 hI
  rintro k a w ⟨x11, A12, cp13, h1, ha, hI⟩
  rcases k with _ | k
  ·
   cases h1
  simp only [ref02_Pad.l0] at h1
  refine CodT.of ?_ ha
  refine cQ ?_
  refine cQ ?_
  refine cR [0, 1, 2, 3] (by kernel_rfl) ?_
  refine oP (r := []) [0, 1, 2, 3] (S' := [(0, .string a0), (3, .slice A12 x11.length cp13), (15, .bool (((x11.length : Int).tmod 64) != 56))]) (by kernel_rfl) ?_
  refine oD ?_
  refine qT ?_
  by_cases hb14 : (((x11.length : Int).tmod 64) != 56) = true
  ·
   rw [if_pos hb14] at h1
   refine CodT.yes' (b := ((x11.length : Int).tmod 64) != 56) (by kernel_rfl) hb14 ?_
   refine CodT.skip ?_
   refine qT ?_
   refine CodT.block ?_
   refine cR [0, 1, 2, 3] (by kernel_rfl) ?_
   refine oP (r := [1, 2, 3]) [0] (S' := [(0, .string a0), (16, .slice A12 x11.length cp13)]) (by kernel_rfl) ?_
   refine oC (Does.buildSlice (en := (cI .u8)) (d := 17) (n := 1) (T := 45) (ps := [(0, .int .u8 0)]) ([0] : List Int) (by kernel_rfl) Go.Proofs.Try.underlying45 ty5 (by kernel_rfl) (by kernel_rfl) (by kernel_rfl) (by kernel_rfl) (len_all (fun _ => rfl)) hI ?_)
   intro b15 w hI
   obtain ⟨hg16, h1⟩ := guardS h1
   have hI := hI.mono (pick2 _ _ _)
   refine oC (Does.append (d := 18) (t := 45) (tx := 45) (ty := 45) (ys := x11) (zs := ([0] : List Int)) (x := .slice (some ⟨b15, 0, none⟩) (([0] : List Int).length) 1) (by kernel_rfl) Go.Proofs.Try.underlying45 ty5 (by kernel_rfl) hI (src_own Go.Proofs.Try.underlying45 (hI.mono (pick2 _ _ _)) (one_flat _ (fun _ => rfl))) (ownS_facts (hI.mono (pick2 _ _ _))).2.2 (by unfold LIM at hg16; omega) hg16 ?_)
   intro A17 cp18 w hI
   refine oP (r := []) [3] (S' := [(0, .string a0), (3, .slice A17 ((x11 ++ ([0] : List Int)).length) cp18)]) (by kernel_rfl) ?_
   refine oD ?_
   refine Qn.block_normal ?_
   have hI := hI.mono (pick2 _ _ _)
   have hI := hI.drop
   exact Qn.thenJ fun a ha => ⟨k, Nat.lt_succ_self k, x11 ++ ([0] : List Int), A17, cp18, h1, ha.keep [0, 3] (by kernel_rfl), hI⟩
  ·
   rw [if_neg hb14] at h1
   refine CodT.no' (b := ((x11.length : Int).tmod 64) != 56) (by kernel_rfl) (by simpa using hb14) ?_
   refine CodT.exit ?_
   refine Qn.exit_then ?_
   refine Qn.exit_then ?_
   refine Qn.block ?_
   have e := someS h1
   subst e
   exact Qn.thenJ fun a ha => ⟨x11, A12, cp13, rfl, ha.keep [0, 3] (by kernel_rfl), hI⟩
 ·
  rintro a w ⟨x8, A9, cp10, rfl, ha, hI⟩
  try dsimp only at h0
  refine Qn.of ?_ ha
  refine qT ?_
  refine cQ ?_
  refine cR [0, 1, 2, 3, 4] (by kernel_rfl) ?_
  refine oP (r := []) [0, 1, 2, 3, 4] (S' := [(3, .slice A9 x8.length cp10), (4, .int .u64 (wu64 ((wu64 (a0.size : Int)) * 8)))]) (by kernel_rfl) ?_
  refine oD ?_
  refine qT ?_
  refine cQ ?_
  refine cR [0] (by kernel_rfl) ?_
  refine oP (r := []) [0] (S' := [(3, .slice A9 x8.length cp10), (4, .int .u64 (wu64 ((wu64 (a0.size : Int)) * 8))), (5, .slice none 0 0)]) (by kernel_rfl) ?_
  refine oD ?_
  refine qT ?_
  refine cQ ?_
  refine cQ ?_
  refine cR [0] (by kernel_rfl) ?_
  refine oP (r := []) [0] (S' := [(3, .slice A9 x8.length cp10), (4, .int .u64 (wu64 ((wu64 (a0.size : Int)) * 8))), (5, .slice none 0 0), (6, iv 0)]) (by kernel_rfl) ?_
  refine oD ?_
  refine qT ?_
  obtain ⟨r1, h1, h0⟩ := bindS h0
  refine CodT.meet1 (fun a w => ∃ (x19 : (List Int)) (A20 : Option Addr) (cp21 : Nat), x19 = r1 ∧ Fr 39 [(3, .slice A9 x8.length cp10), (5, .slice A20 x19.length cp21)] a ∧ Inv w0 Z w (star (ownS 5 (cI .u8) 1 A20 cp21 x19) (star (ownS 5 (cI .u8) 1 A9 cp10 x8) A))) ?_ ?_
  ·
   refine CodT.block ?_
   have hI := ownS_nil (α := Int) hI 5 (cI .u8) 1
   refine (fun a ha => wp_loopN (fun k a w => ∃ (x22 : Int) (x23 : (List Int)) (x26 : Int) (A24 : Option Addr) (cp25 : Nat), ref02_Pad.l1 k x22 x23 x26 = some r1 ∧ Fr 39 [(3, .slice A9 x8.length cp10), (4, .int .u64 x22), (5, .slice A24 x23.length cp25), (6, iv x26)] a ∧ Inv w0 Z w (star (ownS 5 (cI .u8) 1 A24 cp25 x23) (star (ownS 5 (cI .u8) 1 A9 cp10 x8) A))) ?_ FU a w ⟨wu64 ((wu64 (a0.size : Int)) * 8), ([] : List Int), 0, none, 0, h1, ha.keep [3, 4, 5, 6] (by kernel_rfl), hI⟩)
   clear h1 hI
   rintro k a w ⟨x22, x23, x26, A24, cp25, h1, ha, hI⟩
   rcases k with _ | k
   ·
    cases h1
   simp only [ref02_Pad.l1] at h1
   refine CodT.of ?_ ha
   refine cQ ?_
   refine cQ ?_
   refine cR [0, 1] (by kernel_rfl) ?_
   refine oP (r := []) [0, 1] (S' := [(3, .slice A9 x8.length cp10), (4, .int .u64 x22), (5, .slice A24 x23.length cp25), (6, iv x26), (24, .bool (decide (x26 < 8)))]) (by kernel_rfl) ?_
   refine oD ?_
   refine qT ?_
   by_cases hb27 : (decide (x26 < 8)) = true
   ·
    rw [if_pos hb27] at h1
    refine CodT.yes' (b := decide (x26 < 8)) (by kernel_rfl) hb27 ?_
    refine CodT.skip ?_
    refine qT ?_
    refine cQ ?_
    refine CodT.block ?_
    refine cQ ?_
    refine cR [0, 1, 2, 3, 4, 5, 6] (by kernel_rfl) ?_
    refine oP (r := [3, 4, 5, 6]) [0, 1, 2] (S' := [(3, .slice A9 x8.length cp10), (4, .int .u64 x22), (5, .slice A24 x23.length cp25), (6, iv x26), (29, .int .u8 (wu8 (x22.tmod 256)))]) (by kernel_rfl) ?_
    refine oC (Does.buildSlice (en := (cI .u8)) (d := 30) (n := 1) (T := 45) (ps := [(0, .int .u8 (wu8 (x22.tmod 256)))]) ([wu8 (x22.tmod 256)] : List Int) (by kernel_rfl) Go.Proofs.Try.underlying45 ty5 (by kernel_rfl) (by kernel_rfl) (by kernel_rfl) (by kernel_rfl) (len_all (fun _ => rfl)) hI ?_)
    intro b28 w hI
    refine oP (r := [5, 6]) [4] (S' := [(3, .slice A9 x8.length cp10), (4, .int .u64 x22), (6, iv x26), (30, .slice (some ⟨b28, 0, none⟩) (([wu8 (x22.tmod 256)] : List Int).length) 1), (31, .slice A24 x23.length cp25)]) (by kernel_rfl) ?_
    obtain ⟨hg29, h1⟩ := guardS h1
    refine oC (Does.append (d := 32) (t := 45) (tx := 45) (ty := 45) (ys := ([wu8 (x22.tmod 256)] : List Int)) (zs := x23) (x := .slice A24 x23.length cp25) (by kernel_rfl) Go.Proofs.Try.underlying45 ty5 (by kernel_rfl) hI (src_own Go.Proofs.Try.underlying45 (hI.mono (pick2 _ _ _)) (one_flat _ (fun _ => rfl))) (ownS_facts (hI.mono (pick2 _ _ _))).2.2 (by unfold LIM at hg29; omega) hg29 ?_)
    intro A30 cp31 w hI
    refine oP (r := []) [6] (S' := [(3, .slice A9 x8.length cp10), (4, .int .u64 x22), (5, .slice A30 ((([wu8 (x22.tmod 256)] : List Int) ++ x23).length) cp31), (6, iv x26)]) (by kernel_rfl) ?_
    refine oD ?_
    refine qT ?_
    refine cR [0, 1, 2] (by kernel_rfl) ?_
    refine oP (r := []) [0, 1, 2] (S' := [(3, .slice A9 x8.length cp10), (4, .int .u64 (wu64 (x22.tdiv 256))), (5, .slice A30 ((([wu8 (x22.tmod 256)] : List Int) ++ x23).length) cp31), (6, iv x26)]) (by kernel_rfl) ?_
    refine oD ?_
    refine Qn.block_normal ?_
    refine qT ?_
    refine cR [0, 1, 2] (by kernel_rfl) ?_
    refine oP (r := []) [0, 1, 2] (S' := [(3, .slice A9 x8.length cp10), (4, .int .u64 (wu64 (x22.tdiv 256))), (5, .slice A30 ((([wu8 (x22.tmod 256)] : List Int) ++ x23).length) cp31), (6, iv (wi64 (x26 + 1)))]) (by kernel_rfl) ?_
    refine oD ?_
    have hI := hI.mono (pick2 _ _ _)
    have hI := hI.drop
    exact Qn.thenJ fun a ha => ⟨k, Nat.lt_succ_self k, wu64 (x22.tdiv 256), ([wu8 (x22.tmod 256)] : List Int) ++ x23, wi64 (x26 + 1), A30, cp31, h1, ha.keep [3, 4, 5, 6] (by kernel_rfl), hI⟩
   ·
    rw [if_neg hb27] at h1
    refine CodT.no' (b := decide (x26 < 8)) (by kernel_rfl) (by simpa using hb27) ?_
    refine CodT.exit ?_
    refine Qn.exit_then ?_
    refine Qn.exit_then ?_
    refine Qn.block ?_
    have e := someS h1
    subst e
    exact Qn.thenJ fun a ha => ⟨x23, A24, cp25, rfl, ha.keep [3, 5] (by kernel_rfl), hI⟩
  ·
   rintro a w ⟨x19, A20, cp21, rfl, ha, hI⟩
   try dsimp only at h0
   refine Qn.of ?_ ha
   refine qT ?_
   refine cQ ?_
   refine cR [0, 1, 2, 3, 4] (by kernel_rfl) ?_
   refine oP (r := [2, 3, 4]) [0, 1] (S' := [(35, .slice A9 x8.length cp10), (36, .slice A20 x19.length cp21)]) (by kernel_rfl) ?_
   obtain ⟨hg32, h0⟩ := guardS h0
   have hI := hI.mono (pick2 _ _ _)
   refine oC (Does.append (d := 37) (t := 45) (tx := 45) (ty := 45) (ys := x8) (zs := x19) (x := .slice A20 x19.length cp21) (by kernel_rfl) Go.Proofs.Try.underlying45 ty5 (by kernel_rfl) hI (src_own Go.Proofs.Try.underlying45 (hI.mono (pick2 _ _ _)) (one_flat _ (fun _ => rfl))) (ownS_facts (hI.mono (pick2 _ _ _))).2.2 (by unfold LIM at hg32; omega) hg32 ?_)
   intro A33 cp34 w hI
   refine oC (Does.b2sOwn (d := 38) (src := 45) (dst := 9) (xs := x8 ++ x19) (by kernel_rfl) Go.Proofs.Try.underlying45 Go.Proofs.Try.underlying5 Go.Proofs.Try.underlying9 hI ?_)
   refine oP (r := []) [4] (S' := [(2, .string (strOfNums (x8 ++ x19)))]) (by kernel_rfl) ?_
   refine oD ?_
   refine qT ?_
   refine CodT.ret ?_
   have hI := hI.drop
   have hI := hI.drop
   have e := someS h0
   subst e
   refine qK [2] (S' := [(2, .string (strOfNums (x8 ++ x19)))]) (by kernel_rfl) ?_
   exact post_ret (v := .string (strOfNums (x8 ++ x19))) (fun a ha => RunRes.run (vs := [.string (strOfNums (x8 ++ x19))]) (.tmp (t := 2) (by kernel_rfl) .nil) ha (by kernel_rfl)) ⟨rfl, hI⟩
/-- cenotaph/cenotaphref02.right -/
theorem c71 (w0 w : World) (Z : Hp) (A : HP) (hI : Inv w0 Z w A) (a0 : Int) (a1 : Int) (r : Int) (h0 : ref02_right a0 a1 = some r) :
  Calls prog 71 #[.int .u32 a0, iv a1] w (fun e w' => e = .returned (.int .u32 r) ∧ Inv w0 Z w' A) := by
 have e4 := calls_intro (R := (fun e w' => e = .returned (.int .u32 r) ∧ Inv w0 Z w' A)) (w := w) (args := [.int .u32 a0, iv a1]) (fn := Go.Proofs.Try.f71) 21 Go.Proofs.Try.func71 (by rfl) Go.Proofs.Try.ntmps71 (by kernel_rfl)
 refine e4 ?_
 clear e4
 unfold ref02_right at h0
 refine cQ ?_
 refine cR [0] (by kernel_rfl) ?_
 refine oP (r := []) [0] (S' := [(0, .int .u32 a0), (1, iv a1)]) (by kernel_rfl) ?_
 refine oD ?_
 refine qT ?_
 refine cQ ?_
 refine cQ ?_
 refine cR [0] (by kernel_rfl) ?_
 refine oP (r := []) [0] (S' := [(0, .int .u32 a0), (1, iv a1), (5, iv 0)]) (by kernel_rfl) ?_
 refine oD ?_
 refine qT ?_
 obtain ⟨r1, h1, h0⟩ := bindS h0
 refine CodT.meet1 (fun a w => ∃ (x1 : Int), x1 = r1 ∧ Fr 21 [(0, .int .u32 x1)] a ∧ Inv w0 Z w A) ?_ ?_
 ·
  refine CodT.block ?_
  refine (fun a ha => wp_loopN (fun k a w => ∃ (x2 : Int) (x3 : Int), ref02_right.l0 a1 k x2 x3 = some r1 ∧ Fr 21 [(0, .int .u32 x2), (1, iv a1), (5, iv x3)] a ∧ Inv w0 Z w A) ?_ FU a w ⟨a0, 0, h1, ha.keep [0, 1, 5] (by kernel_rfl), hI⟩)
  clear h1 hI
  rintro k a w ⟨x2, x3, h1, ha, hI⟩
  rcases k with _ | k
  ·
   cases h1
  simp only [ref02_right.l0] at h1
  refine CodT.of ?_ ha
  refine cQ ?_
  refine cQ ?_
  refine cR [0, 1, 2] (by kernel_rfl) ?_
  refine oP (r := []) [0, 1, 2] (S' := [(0, .int .u32 x2), (1, iv a1), (5, iv x3), (9, .bool (decide (x3 < a1)))]) (by kernel_rfl) ?_
  refine oD ?_
  refine qT ?_
  by_cases hb4 : (decide (x3 < a1)) = true
  ·
   rw [if_pos hb4] at h1
   refine CodT.yes' (b := decide (x3 < a1)) (by kernel_rfl) hb4 ?_
   refine CodT.skip ?_
   refine qT ?_
   obtain ⟨r2, h2, h1⟩ := bindS h1
   refine CodT.meet (fun a w => ∃ (x5 : Int), x5 = r2 ∧ Fr 21 [(0, .int .u32 x5), (1, iv a1), (5, iv x3)] a ∧ Inv w0 Z w A) ?_ ?_
   ·
    refine CodT.block ?_
    refine cQ ?_
    refine cR [0, 1, 2] (by kernel_rfl) ?_
    refine oP (r := []) [0, 1, 2] (S' := [(0, .int .u32 x2), (1, iv a1), (5, iv x3), (6, .int .u32 (x2.tmod 2))]) (by kernel_rfl) ?_
    refine oD ?_
    refine qT ?_
    refine cQ ?_
    refine cR [0, 1, 2] (by kernel_rfl) ?_
    refine oP (r := []) [0, 1, 2] (S' := [(0, .int .u32 (wu32 (x2.tdiv 2))), (1, iv a1), (5, iv x3), (6, .int .u32 (x2.tmod 2))]) (by kernel_rfl) ?_
    refine oD ?_
    refine qT ?_
    refine cQ ?_
    refine cR [0, 1] (by kernel_rfl) ?_
    refine oP (r := []) [0, 1] (S' := [(0, .int .u32 (wu32 (x2.tdiv 2))), (1, iv a1), (5, iv x3), (17, .bool ((x2.tmod 2) == 1))]) (by kernel_rfl) ?_
    refine oD ?_
    refine qT ?_
    by_cases hb6 : ((x2.tmod 2) == 1) = true
    ·
     rw [if_pos hb6] at h2
     refine CodT.yes' (b := (x2.tmod 2) == 1) (by kernel_rfl) hb6 ?_
     refine cR [0, 1, 2] (by kernel_rfl) ?_
     refine oP (r := []) [0, 1, 2] (S' := [(0, .int .u32 (wu32 ((wu32 (x2.tdiv 2)) + 2147483648))), (1, iv a1), (5, iv x3)]) (by kernel_rfl) ?_
     refine oD ?_
     refine Qn.block_normal ?_
     have e := someS h2
     subst e
     exact Qn.thenJ fun a ha => ⟨wu32 ((wu32 (x2.tdiv 2)) + 2147483648), rfl, ha.keep [0, 1, 5] (by kernel_rfl), hI⟩
    ·
     rw [if_neg hb6] at h2
     refine CodT.no' (b := (x2.tmod 2) == 1) (by kernel_rfl) (by simpa using hb6) ?_
     refine CodT.skip ?_
     refine Qn.block_normal ?_
     have e := someS h2
     subst e
     exact Qn.thenJ fun a ha => ⟨wu32 (x2.tdiv 2), rfl, ha.keep [0, 1, 5] (by kernel_rfl), hI⟩
   ·
    rintro a w ⟨x5, rfl, ha, hI⟩
    try dsimp only at h1
    refine CodT.of ?_ ha
    refine cR [0, 1, 2] (by kernel_rfl) ?_
    refine oP (r := []) [0, 1, 2] (S' := [(0, .int .u32 x5), (1, iv a1), (5, iv (wi64 (x3 + 1)))]) (by kernel_rfl) ?_
    refine oD ?_
    exact Qn.thenJ fun a ha => ⟨k, Nat.lt_succ_self k, x5, wi64 (x3 + 1), h1, ha.keep [0, 1, 5] (by kernel_rfl), hI⟩
  ·
   rw [if_neg hb4] at h1
   refine CodT.no' (b := decide (x3 < a1)) (by kernel_rfl) (by simpa using hb4) ?_
   refine CodT.exit ?_
   refine Qn.exit_then ?_
   refine Qn.exit_then ?_
   refine Qn.block ?_
   have e := someS h1
   subst e
   exact Qn.thenJ fun a ha => ⟨x2, rfl, ha.keep [0] (by kernel_rfl), hI⟩
 ·
  rintro a w ⟨x1, rfl, ha, hI⟩
  try dsimp only at h0
  refine Qn.of ?_ ha
  refine qT ?_
  refine cQ ?_
  refine cR [0, 1] (by kernel_rfl) ?_
  refine oP (r := []) [0, 1] (S' := [(4, .int .u32 x1)]) (by kernel_rfl) ?_
  refine oD ?_
  refine qT ?_
  refine CodT.ret ?_
  have e := someS h0
  subst e
  refine qK [4] (S' := [(4, .int .u32 x1)]) (by kernel_rfl) ?_
  exact post_ret (v := .int .u32 x1) (fun a ha => RunRes.run (vs := [.int .u32 x1]) (.tmp (t := 4) (by kernel_rfl) .nil) ha (by kernel_rfl)) ⟨rfl, hI⟩
/-- cenotaph/cenotaphref02.shift -/
theorem c72 (w0 w : World) (Z : Hp) (A : HP) (hI : Inv w0 Z w A) (a0 : Int) (a1 : Int) (r : Int) (h0 : ref02_shift a0 a1 = some r) :
  Calls prog 72 #[.int .u32 a0, iv a1] w (fun e w' => e = .returned (.int .u32 r) ∧ Inv w0 Z w' A) := by
 have e4 := calls_intro (R := (fun e w' => e = .returned (.int .u32 r) ∧ Inv w0 Z w' A)) (w := w) (args := [.int .u32 a0, iv a1]) (fn := Go.Proofs.Try.f72) 14 Go.Proofs.Try.func72 (by rfl) Go.Proofs.Try.ntmps72 (by kernel_rfl)
 refine e4 ?_
 clear e4
 unfold ref02_shift at h0
 refine cQ ?_
 refine cR [0] (by kernel_rfl) ?_
 refine oP (r := []) [0] (S' := [(0, .int .u32 a0), (1, iv a1)]) (by kernel_rfl) ?_
 refine oD ?_
 refine qT ?_
 refine cQ ?_
 refine cQ ?_
 refine cR [0] (by kernel_rfl) ?_
 refine oP (r := []) [0] (S' := [(0, .int .u32 a0), (1, iv a1), (5, iv 0)]) (by kernel_rfl) ?_
 refine oD ?_
 refine qT ?_
 obtain ⟨r1, h1, h0⟩ := bindS h0
 refine CodT.meet1 (fun a w => ∃ (x1 : Int), x1 = r1 ∧ Fr 14 [(0, .int .u32 x1)] a ∧ Inv w0 Z w A) ?_ ?_
 ·
  refine CodT.block ?_
  refine (fun a ha => wp_loopN (fun k a w => ∃ (x2 : Int) (x3 : Int), ref02_shift.l0 a1 k x2 x3 = some r1 ∧ Fr 14 [(0, .int .u32 x2), (1, iv a1), (5, iv x3)] a ∧ Inv w0 Z w A) ?_ FU a w ⟨a0, 0, h1, ha.keep [0, 1, 5] (by kernel_rfl), hI⟩)
  clear h1 hI
  rintro k a w ⟨x2, x3, h1, ha, hI⟩
  rcases k with _ | k
  ·
   cases h1
  simp only [ref02_shift.l0] at h1
  refine CodT.of ?_ ha
  refine cQ ?_
  refine cQ ?_
  refine cR [0, 1, 2] (by kernel_rfl) ?_
  refine oP (r := []) [0, 1, 2] (S' := [(0, .int .u32 x2), (1, iv a1), (5, iv x3), (8, .bool (decide (x3 < a1)))]) (by kernel_rfl) ?_
  refine oD ?_
  refine qT ?_
  by_cases hb4 : (decide (x3 < a1)) = true
  ·
   rw [if_pos hb4] at h1
   refine CodT.yes' (b := decide (x3 < a1)) (by kernel_rfl) hb4 ?_
   refine CodT.skip ?_
   refine qT ?_
   refine cQ ?_
   refine CodT.block ?_
   refine cR [0, 1, 2] (by kernel_rfl) ?_
   refine oP (r := []) [0, 1, 2] (S' := [(0, .int .u32 (wu32 (x2.tdiv 2))), (1, iv a1), (5, iv x3)]) (by kernel_rfl) ?_
   refine oD ?_
   refine Qn.block_normal ?_
   refine qT ?_
   refine cR [0, 1, 2] (by kernel_rfl) ?_
   refine oP (r := []) [0, 1, 2] (S' := [(0, .int .u32 (wu32 (x2.tdiv 2))), (1, iv a1), (5, iv (wi64 (x3 + 1)))]) (by kernel_rfl) ?_
   refine oD ?_
   exact Qn.thenJ fun a ha => ⟨k, Nat.lt_succ_self k, wu32 (x2.tdiv 2), wi64 (x3 + 1), h1, ha.keep [0, 1, 5] (by kernel_rfl), hI⟩
  ·
   rw [if_neg hb4] at h1
   refine CodT.no' (b := decide (x3 < a1)) (by kernel_rfl) (by simpa using hb4) ?_
   refine CodT.exit ?_
   refine Qn.exit_then ?_
   refine Qn.exit_then ?_
   refine Qn.block ?_
   have e := someS h1
   subst e
   exact Qn.thenJ fun a ha => ⟨x2, rfl, ha.keep [0] (by kernel_rfl), hI⟩
 ·
  rintro a w ⟨x1, rfl, ha, hI⟩
  try dsimp only at h0
  refine Qn.of ?_ ha
  refine qT ?_
  refine cQ ?_
  refine cR [0, 1] (by kernel_rfl) ?_
  refine oP (r := []) [0, 1] (S' := [(4, .int .u32 x1)]) (by kernel_rfl) ?_
  refine oD ?_
  refine qT ?_
  refine CodT.ret ?_
  have e := someS h0
  subst e
  refine qK [4] (S' := [(4, .int .u32 x1)]) (by kernel_rfl) ?_
  exact post_ret (v := .int .u32 x1) (fun a ha => RunRes.run (vs := [.int .u32 x1]) (.tmp (t := 4) (by kernel_rfl) .nil) ha (by kernel_rfl)) ⟨rfl, hI⟩
/-- cenotaph/cenotaphref02.Of -/
theorem c53 (w0 w : World) (Z : Hp) (A : HP) (hI : Inv w0 Z w A) (a0 : ByteArray) (r : (List Int)) (h0 : ref02_Of a0 = some r) :
  Calls prog 53 #[.string a0] w (fun e w' => e = .returned (.agg (cA (Value.int .u8) r).toArray) ∧ r.length = 32 ∧ Inv w0 Z w' A) := by
 have e4 := calls_intro (R := (fun e w' => e = .returned (.agg (cA (Value.int .u8) r).toArray) ∧ r.length = 32 ∧ Inv w0 Z w' A)) (w := w) (args := [.string a0]) (fn := Go.Proofs.Try.f53) 216 Go.Proofs.Try.func53 (by rfl) Go.Proofs.Try.ntmps53 (by kernel_rfl)
 refine e4 ?_
 clear e4
 unfold ref02_Of at h0
 refine cQ ?_
 refine cR [0] (by kernel_rfl) ?_
 refine oC (Does.allocL (d := 2) (T := 29) (cA (Value.int .u8) (List.replicate 32 (0 : Int))) (by kernel_rfl) ty29 hI (by kernel_rfl) ?_)
 intro b1 w hI
 refine oD ?_
 refine qT ?_
 refine cQ ?_
 refine cR [0, 1, 2] (by kernel_rfl) ?_
 obtain ⟨y3, hc2, h0⟩ := bindS h0
 try dsimp only at h0
 refine oC (Does.call (d := some 24) (n := 68) (vs := []) (by kernel_rfl) en68 (c68 w0 w _ _ hI _ hc2) ?_)
 rintro e w ⟨rfl, hl4, hI⟩
 refine ⟨_, rfl, ?_⟩
 refine oC (Does.allocL (d := 3) (T := 53) (cA (Value.int .u32) (List.replicate 8 (0 : Int))) (by kernel_rfl) ty53 hI (by kernel_rfl) ?_)
 intro b5 w hI
 refine oC (Does.storeAll (T := 53) (b := b5) (n := 8) (xs := (List.replicate 8 (0 : Int))) (ys := y3) (by kernel_rfl) ty53 hI (fun _ => rfl) (by kernel_rfl) hl4 ?_)
 intro w hI
 refine oD ?_
 refine qT ?_
 refine cQ ?_
 refine cR [0, 1, 2] (by kernel_rfl) ?_
 obtain ⟨y7, hc6, h0⟩ := bindS h0
 try dsimp only at h0
 refine oC (Does.call (d := some 25) (n := 69) (vs := []) (by kernel_rfl) en69 (c69 w0 w _ _ hI _ hc6) ?_)
 rintro e w ⟨rfl, hl8, hI⟩
 refine ⟨_, rfl, ?_⟩
 refine oC (Does.allocL (d := 4) (T := 54) (cA (Value.int .u32) (List.replicate 64 (0 : Int))) (by kernel_rfl) ty54 hI (by kernel_rfl) ?_)
 intro b9 w hI
 refine oC (Does.storeAll (T := 54) (b := b9) (n := 64) (xs := (List.replicate 64 (0 : Int))) (ys := y7) (by kernel_rfl) ty54 hI (fun _ => rfl) (by kernel_rfl) hl8 ?_)
 intro w hI
 refine oD ?_
 refine qT ?_
 refine cQ ?_
 refine cR [0, 1, 2] (by kernel_rfl) ?_
 refine oP (r := [1, 2]) [0] (S' := [(2, pb b1), (3, pb b5), (4, pb b9), (26, .string a0)]) (by kernel_rfl) ?_
 obtain ⟨y11, hc10, h0⟩ := bindS h0
 try dsimp only at h0
 refine oC (Does.call (d := some 27) (n := 70) (vs := [.string a0]) (by kernel_rfl) en70 (c70 w0 w _ _ hI a0 _ hc10) ?_)
 rintro e w ⟨rfl, hI⟩
 refine ⟨_, rfl, ?_⟩
 refine oP (r := []) [2] (S' := [(2, pb b1), (3, pb b5), (4, pb b9), (5, .string y11)]) (by kernel_rfl) ?_
 refine oD ?_
 refine qT ?_
 refine cQ ?_
 refine cQ ?_
 refine cR [0] (by kernel_rfl) ?_
 refine oP (r := []) [0] (S' := [(2, pb b1), (3, pb b5), (4, pb b9), (5, .string y11), (6, iv 0)]) (by kernel_rfl) ?_
 refine oD ?_
 refine qT ?_
 obtain ⟨r1, h1, h0⟩ := bindS h0
 refine CodT.meet1 (fun a w => ∃ (x12 : (List Int)), x12 = r1 ∧ Fr 216 [(2, pb b1), (3, pb b5)] a ∧ Inv w0 Z w (star (pt b5 (.cells (cA (Value.int .u32) x12).toArray 53 (0, 0))) (star (pt b1 (.cells (cA (Value.int .u8) (List.replicate 32 (0 : Int))).toArray 29 (0, 0))) A)) ∧ x12.length = 8) ?_ ?_
 ·
  refine CodT.block ?_
  refine (fun a ha => wp_loopN (fun k a w => ∃ (x14 : Int) (x15 : (List Int)), ref02_Of.l0 y11 y7 k x14 x15 = some r1 ∧ Fr 216 [(2, pb b1), (3, pb b5), (4, pb b9), (5, .string y11), (6, iv x14)] a ∧ Inv w0 Z w (star (pt b9 (.cells (cA (Value.int .u32) y7).toArray 54 (0, 0))) (star (pt b5 (.cells (cA (Value.int .u32) x15).toArray 53 (0, 0))) (star (pt b1 (.cells (cA (Value.int .u8) (List.replicate 32 (0 : Int))).toArray 29 (0, 0))) A))) ∧ x15.length = 8) ?_ FU a w ⟨0, y3, h1, ha.keep [2, 3, 4, 5, 6] (by kernel_rfl), hI, hl4⟩)
  clear h1 hI
  rintro k a w ⟨x14, x15, h1, ha, hI, hl16⟩
  rcases k with _ | k
  ·
   cases h1
  simp only [ref02_Of.l0] at h1
  refine CodT.of ?_ ha
  refine cQ ?_
  refine cQ ?_
  refine cR [0, 1, 2, 3] (by kernel_rfl) ?_
  refine oP (r := []) [0, 1, 2, 3] (S' := [(2, pb b1), (3, pb b5), (4, pb b9), (5, .string y11), (6, iv x14), (31, .bool (decide (x14 < (y11.size : Int))))]) (by kernel_rfl) ?_
  refine oD ?_
  refine qT ?_
  by_cases hb17 : (decide (x14 < (y11.size : Int))) = true
  ·
   rw [if_pos hb17] at h1
   refine CodT.yes' (b := decide (x14 < (y11.size : Int))) (by kernel_rfl) hb17 ?_
   refine CodT.skip ?_
   refine qT ?_
   refine cQ ?_
   refine CodT.block ?_
   refine cQ ?_
   refine cR [0] (by kernel_rfl) ?_
   refine oC (Does.allocL (d := 7) (T := 54) (cA (Value.int .u32) (List.replicate 64 (0 : Int))) (by kernel_rfl) ty54 hI (by kernel_rfl) ?_)
   intro b18 w hI
   refine oD ?_
   refine qT ?_
   refine cQ ?_
   refine cQ ?_
   refine cR [0] (by kernel_rfl) ?_
   refine oP (r := []) [0] (S' := [(2, pb b1), (3, pb b5), (4, pb b9), (5, .string y11), (6, iv x14), (7, pb b18), (8, iv 0)]) (by kernel_rfl) ?_
   refine oD ?_
   refine qT ?_
   obtain ⟨r2, h2, h1⟩ := bindS h1
   refine CodT.meet1 (fun a w => ∃ (x19 : (List Int)), x19 = r2 ∧ Fr 216 [(2, pb b1), (3, pb b5), (4, pb b9), (5, .string y11), (6, iv x14), (7, pb b18)] a ∧ Inv w0 Z w (star (pt b18 (.cells (cA (Value.int .u32) x19).toArray 54 (0, 0))) (star (pt b9 (.cells (cA (Value.int .u32) y7).toArray 54 (0, 0))) (star (pt b5 (.cells (cA (Value.int .u32) x15).toArray 53 (0, 0))) (star (pt b1 (.cells (cA (Value.int .u8) (List.replicate 32 (0 : Int))).toArray 29 (0, 0))) A)))) ∧ x19.length = 64) ?_ ?_
   ·
    refine CodT.block ?_
    refine (fun a ha => wp_loopN (fun k a w => ∃ (x21 : Int) (x22 : (List Int)), ref02_Of.l1 x14 y11 k x21 x22 = some r2 ∧ Fr 216 [(2, pb b1), (3, pb b5), (4, pb b9), (5, .string y11), (6, iv x14), (7, pb b18), (8, iv x21)] a ∧ Inv w0 Z w (star (pt b18 (.cells (cA (Value.int .u32) x22).toArray 54 (0, 0))) (star (pt b9 (.cells (cA (Value.int .u32) y7).toArray 54 (0, 0))) (star (pt b5 (.cells (cA (Value.int .u32) x15).toArray 53 (0, 0))) (star (pt b1 (.cells (cA (Value.int .u8) (List.replicate 32 (0 : Int))).toArray 29 (0, 0))) A)))) ∧ x22.length = 64) ?_ FU a w ⟨0, (List.replicate 64 (0 : Int)), h2, ha.keep [2, 3, 4, 5, 6, 7, 8] (by kernel_rfl), hI, (by kernel_rfl)⟩)
    clear h2 hI
    rintro k a w ⟨x21, x22, h2, ha, hI, hl23⟩
    rcases k with _ | k
    ·
     cases h2
    simp only [ref02_Of.l1] at h2
    refine CodT.of ?_ ha
    refine cQ ?_
    refine cQ ?_
    refine cR [0, 1] (by kernel_rfl) ?_
    refine oP (r := []) [0, 1] (S' := [(2, pb b1), (3, pb b5), (4, pb b9), (5, .string y11), (6, iv x14), (7, pb b18), (8, iv x21), (35, .bool (decide (x21 < 64)))]) (by kernel_rfl) ?_
    refine oD ?_
    refine qT ?_
    by_cases hb24 : (decide (x21 < 64)) = true
    ·
     rw [if_pos hb24] at h2
     refine CodT.yes' (b := decide (x21 < 64)) (by kernel_rfl) hb24 ?_
     refine CodT.skip ?_
     refine qT ?_
     obtain ⟨r3, h3, h2⟩ := bindS h2
     refine CodT.meet (fun a w => ∃ (x25 : (List Int)), x25 = r3 ∧ Fr 216 [(2, pb b1), (3, pb b5), (4, pb b9), (5, .string y11), (6, iv x14), (7, pb b18), (8, iv x21)] a ∧ Inv w0 Z w (star (pt b18 (.cells (cA (Value.int .u32) x25).toArray 54 (0, 0))) (star (pt b9 (.cells (cA (Value.int .u32) y7).toArray 54 (0, 0))) (star (pt b5 (.cells (cA (Value.int .u32) x15).toArray 53 (0, 0))) (star (pt b1 (.cells (cA (Value.int .u8) (List.replicate 32 (0 : Int))).toArray 29 (0, 0))) A)))) ∧ x25.length = 64) ?_ ?_
     ·
      refine CodT.block ?_
      refine cQ ?_
      refine cQ ?_
      refine cR [0, 1] (by kernel_rfl) ?_
      refine oP (r := []) [0, 1] (S' := [(2, pb b1), (3, pb b5), (4, pb b9), (5, .string y11), (6, iv x14), (7, pb b18), (8, iv x21), (39, .bool (decide (x21 < 16)))]) (by kernel_rfl) ?_
      refine oD ?_
      refine qT ?_
      by_cases hb27 : (decide (x21 < 16)) = true
      ·
       rw [if_pos hb27] at h3
       refine CodT.yes' (b := decide (x21 < 16)) (by kernel_rfl) hb27 ?_
       refine cQ ?_
       refine cQ ?_
       refine cR [0] (by kernel_rfl) ?_
       refine oP (r := []) [0] (S' := [(2, pb b1), (3, pb b5), (4, pb b9), (5, .string y11), (6, iv x14), (7, pb b18), (8, iv x21), (9, iv 0)]) (by kernel_rfl) ?_
       refine oD ?_
       refine qT ?_
       obtain ⟨r4, h4, h3⟩ := bindS h3
       refine CodT.meet1 (fun a w => ∃ (x28 : (List Int)), x28 = r4 ∧ Fr 216 [(2, pb b1), (3, pb b5), (4, pb b9), (5, .string y11), (6, iv x14), (7, pb b18), (8, iv x21)] a ∧ Inv w0 Z w (star (pt b18 (.cells (cA (Value.int .u32) x28).toArray 54 (0, 0))) (star (pt b9 (.cells (cA (Value.int .u32) y7).toArray 54 (0, 0))) (star (pt b5 (.cells (cA (Value.int .u32) x15).toArray 53 (0, 0))) (star (pt b1 (.cells (cA (Value.int .u8) (List.replicate 32 (0 : Int))).toArray 29 (0, 0))) A)))) ∧ x28.length = 64) ?_ ?_
       ·
        refine CodT.block ?_
        refine (fun a ha => wp_loopN (fun k a w => ∃ (x30 : Int) (x31 : (List Int)), ref02_Of.l2 x21 x14 y11 k x30 x31 = some r4 ∧ Fr 216 [(2, pb b1), (3, pb b5), (4, pb b9), (5, .string y11), (6, iv x14), (7, pb b18), (8, iv x21), (9, iv x30)] a ∧ Inv w0 Z w (star (pt b18 (.cells (cA (Value.int .u32) x31).toArray 54 (0, 0))) (star (pt b9 (.cells (cA (Value.int .u32) y7).toArray 54 (0, 0))) (star (pt b5 (.cells (cA (Value.int .u32) x15).toArray 53 (0, 0))) (star (pt b1 (.cells (cA (Value.int .u8) (List.replicate 32 (0 : Int))).toArray 29 (0, 0))) A)))) ∧ x31.length = 64) ?_ FU a w ⟨0, x22, h4, ha.keep [2, 3, 4, 5, 6, 7, 8, 9] (by kernel_rfl), hI, hl23⟩)
        clear h4 hI
        rintro k a w ⟨x30, x31, h4, ha, hI, hl32⟩
        rcases k with _ | k
        ·
         cases h4
        simp only [ref02_Of.l2] at h4
        refine CodT.of ?_ ha
        refine cQ ?_
        refine cQ ?_
        refine cR [0, 1] (by kernel_rfl) ?_
        refine oP (r := []) [0, 1] (S' := [(2, pb b1), (3, pb b5), (4, pb b9), (5, .string y11), (6, iv x14), (7, pb b18), (8, iv x21), (9, iv x30), (41, .bool (decide (x30 < 4)))]) (by kernel_rfl) ?_
        refine oD ?_
        refine qT ?_
        by_cases hb33 : (decide (x30 < 4)) = true
        ·
         rw [if_pos hb33] at h4
         refine CodT.yes' (b := decide (x30 < 4)) (by kernel_rfl) hb33 ?_
         refine CodT.skip ?_
         refine qT ?_
         refine cQ ?_
         refine CodT.block ?_
         refine CodT.drawI (n := 17) [16] (by kernel_rfl) (by kernel_rfl) hI ?_
         intro w hI
         refine GmT.p' 0 44 (iv x21) (by kernel_rfl) (by kernel_rfl) ?_
         refine GmT.p' 1 45 (iv x21) (by kernel_rfl) (by kernel_rfl) ?_
         refine GmT.p' 5 49 (.string y11) (by kernel_rfl) (by kernel_rfl) ?_
         refine GmT.p' 6 50 (iv x14) (by kernel_rfl) (by kernel_rfl) ?_
         refine GmT.p' 7 51 (iv x21) (by kernel_rfl) (by kernel_rfl) ?_
         refine GmT.p' 8 52 (iv (wi64 (4 * x21))) (by kernel_rfl) (by kernel_rfl) ?_
         refine GmT.p' 9 53 (iv (wi64 (x14 + (wi64 (4 * x21))))) (by kernel_rfl) (by kernel_rfl) ?_
         refine GmT.p' 10 54 (iv x30) (by kernel_rfl) (by kernel_rfl) ?_
         refine GmT.p' 11 55 (iv (wi64 ((wi64 (x14 + (wi64 (4 * x21)))) + x30))) (by kernel_rfl) (by kernel_rfl) ?_
         obtain ⟨hg34, h4⟩ := guardS h4
         refine GmT.r (i := 2) 2 (by kernel_rfl) (by kernel_rfl) (Yl.indexArr (d := 46) (T := 54) (k := .i64) (j := x21) (g := b18) (o := 0) (by kernel_rfl) Go.Proofs.Try.underlying54 ty52 hg34.1 hg34.2) hI ?_
         refine GmT.r (i := 3) 2 (by kernel_rfl) (by kernel_rfl) (Yl.load (d := 47) (T := 52) (v := .int .u32 (gt x31 x21)) (by kernel_rfl) (ldB ty52 (l := cA (Value.int .u32) x31) (o := 0 + x21.toNat * 1) (v := .int .u32 (gt x31 x21)) (ent_refl _) (arr_get _ _ hg34.1 (by have := And.intro hl32 hg34.2; omega)))) hI ?_
         refine GmT.p' 4 48 (.int .u32 (wu32 ((gt x31 x21) * 256))) (by kernel_rfl) (by kernel_rfl) ?_
         obtain ⟨hg35, h4⟩ := guardS h4
         refine GmT.r (i := 12) 2 (by kernel_rfl) (by kernel_rfl) (Yl.indexStr (d := 56) (T := 9) (k := .i64) (j := wi64 ((wi64 (x14 + (wi64 (4 * x21)))) + x30)) (s := y11) (by kernel_rfl) Go.Proofs.Try.underlying9 hg35.1 hg35.2) hI ?_
         refine GmT.p' 13 57 (.int .u32 (wu32 (bt y11 (wi64 ((wi64 (x14 + (wi64 (4 * x21)))) + x30))))) (by kernel_rfl) (by kernel_rfl) ?_
         refine GmT.p' 14 58 (.int .u32 (wu32 ((wu32 ((gt x31 x21) * 256)) + (wu32 (bt y11 (wi64 ((wi64 (x14 + (wi64 (4 * x21)))) + x30))))))) (by kernel_rfl) (by kernel_rfl) ?_
         obtain ⟨hg36, h4⟩ := guardS h4
         refine GmT.r (i := 15) 2 (by kernel_rfl) (by kernel_rfl) (Yl.indexArr (d := 59) (T := 54) (k := .i64) (j := x21) (g := b18) (o := 0) (by kernel_rfl) Go.Proofs.Try.underlying54 ty52 hg36.1 hg36.2) hI ?_
         refine GmT.o (i := 16) (by kernel_rfl) (Does.storeArr (e := (Value.int .u32)) (xs := x31) (u := wu32 ((wu32 ((gt x31 x21) * 256)) + (wu32 (bt y11 (wi64 ((wi64 (x14 + (wi64 (4 * x21)))) + x30)))))) (T := 52) (b := b18) (j := x21) (by kernel_rfl) ty52 hI (by kernel_rfl) (by kernel_rfl) hg36.1 (by have := And.intro hl32 hg36.2; omega) ?_)
         intro w hI
         refine ⟨fun h => absurd h (by decide), ?_⟩
         refine GmT.done (by kernel_rfl) ?_
         refine Qn.block_normal ?_
         refine qT ?_
         refine cR [0, 1, 2] (by kernel_rfl) ?_
         refine oP (r := []) [0, 1, 2] (S' := [(2, pb b1), (3, pb b5), (4, pb b9), (5, .string y11), (6, iv x14), (7, pb b18), (8, iv x21), (9, iv (wi64 (x30 + 1)))]) (by kernel_rfl) ?_
         refine oD ?_
         exact Qn.thenJ fun a ha => ⟨k, Nat.lt_succ_self k, wi64 (x30 + 1), st x31 x21 (wu32 ((wu32 ((gt x31 x21) * 256)) + (wu32 (bt y11 (wi64 ((wi64 (x14 + (wi64 (4 * x21)))) + x30)))))), h4, ha.keep [2, 3, 4, 5, 6, 7, 8, 9] (by kernel_rfl), hI, ((st_length _ _ _).trans hl32)⟩
        ·
         rw [if_neg hb33] at h4
         refine CodT.no' (b := decide (x30 < 4)) (by kernel_rfl) (by simpa using hb33) ?_
         refine CodT.exit ?_
         refine Qn.exit_then ?_
         refine Qn.exit_then ?_
         refine Qn.block ?_
         have e := someS h4
         subst e
         exact Qn.thenJ fun a ha => ⟨x31, rfl, ha.keep [2, 3, 4, 5, 6, 7, 8] (by kernel_rfl), hI, hl32⟩
       ·
        rintro a w ⟨x28, rfl, ha, hI, hl29⟩
        try dsimp only at h3
        refine Qn.of ?_ ha
        refine qT ?_
        refine CodT.exit ?_
        refine Qn.exit_then ?_
        refine Qn.block ?_
        have e := someS h3
        subst e
        exact Qn.thenJ fun a ha => ⟨x28, rfl, ha.keep [2, 3, 4, 5, 6, 7, 8] (by kernel_rfl), hI, hl29⟩
      ·
       rw [if_neg hb27] at h3
       refine CodT.no' (b := decide (x21 < 16)) (by kernel_rfl) (by simpa using hb27) ?_
       refine CodT.skip ?_
       refine qT ?_
       refine cQ ?_
       refine cR [0, 1, 2, 3, 4] (by kernel_rfl) ?_
       refine oP (r := [2, 3, 4]) [0, 1] (S' := [(2, pb b1), (3, pb b5), (4, pb b9), (5, .string y11), (6, iv x14), (7, pb b18), (8, iv x21), (61, iv (wi64 (x21 - 15)))]) (by kernel_rfl) ?_
       obtain ⟨hg37, h3⟩ := guardS h3
       refine oC (Does.yi (Yl.indexArr (d := 62) (T := 54) (k := .i64) (j := wi64 (x21 - 15)) (g := b18) (o := 0) (by kernel_rfl) Go.Proofs.Try.underlying54 ty52 hg37.1 hg37.2) hI ?_)
       refine oC (Does.yi (Yl.load (d := 63) (T := 52) (v := .int .u32 (gt x22 (wi64 (x21 - 15)))) (by kernel_rfl) (ldB ty52 (l := cA (Value.int .u32) x22) (o := 0 + (wi64 (x21 - 15)).toNat * 1) (v := .int .u32 (gt x22 (wi64 (x21 - 15)))) (ent_refl _) (arr_get _ _ hg37.1 (by have := And.intro hl23 hg37.2; omega)))) hI ?_)
       refine oP (r := []) [4] (S' := [(2, pb b1), (3, pb b5), (4, pb b9), (5, .string y11), (6, iv x14), (7, pb b18), (8, iv x21), (10, .int .u32 (gt x22 (wi64 (x21 - 15))))]) (by kernel_rfl) ?_
       refine oD ?_
       refine qT ?_
       refine cQ ?_
       refine cR [0, 1, 2, 3, 4] (by kernel_rfl) ?_
       refine oP (r := [2, 3, 4]) [0, 1] (S' := [(2, pb b1), (3, pb b5), (4, pb b9), (5, .string y11), (6, iv x14), (7, pb b18), (8, iv x21), (10, .int .u32 (gt x22 (wi64 (x21 - 15)))), (65, iv (wi64 (x21 - 2)))]) (by kernel_rfl) ?_
       obtain ⟨hg38, h3⟩ := guardS h3
       refine oC (Does.yi (Yl.indexArr (d := 66) (T := 54) (k := .i64) (j := wi64 (x21 - 2)) (g := b18) (o := 0) (by kernel_rfl) Go.Proofs.Try.underlying54 ty52 hg38.1 hg38.2) hI ?_)
       refine oC (Does.yi (Yl.load (d := 67) (T := 52) (v := .int .u32 (gt x22 (wi64 (x21 - 2)))) (by kernel_rfl) (ldB ty52 (l := cA (Value.int .u32) x22) (o := 0 + (wi64 (x21 - 2)).toNat * 1) (v := .int .u32 (gt x22 (wi64 (x21 - 2)))) (ent_refl _) (arr_get _ _ hg38.1 (by have := And.intro hl23 hg38.2; omega)))) hI ?_)
       refine oP (r := []) [4] (S' := [(2, pb b1), (3, pb b5), (4, pb b9), (5, .string y11), (6, iv x14), (7, pb b18), (8, iv x21), (10, .int .u32 (gt x22 (wi64 (x21 - 15)))), (11, .int .u32 (gt x22 (wi64 (x21 - 2))))]) (by kernel_rfl) ?_
       refine oD ?_
       refine qT ?_
       refine CodT.drawI (n := 30) [29] (by kernel_rfl) (by kernel_rfl) hI ?_
       intro w hI
       refine GmT.p' 0 68 (iv x21) (by kernel_rfl) (by kernel_rfl) ?_
       refine GmT.p' 1 69 (.int .u32 (gt x22 (wi64 (x21 - 2)))) (by kernel_rfl) (by kernel_rfl) ?_
       refine GmT.p' 3 71 (.int .u32 (gt x22 (wi64 (x21 - 2)))) (by kernel_rfl) (by kernel_rfl) ?_
       refine GmT.p' 6 74 (.int .u32 (gt x22 (wi64 (x21 - 2)))) (by kernel_rfl) (by kernel_rfl) ?_
       refine GmT.p' 9 77 (iv x21) (by kernel_rfl) (by kernel_rfl) ?_
       refine GmT.p' 10 78 (iv (wi64 (x21 - 7))) (by kernel_rfl) (by kernel_rfl) ?_
       refine GmT.p' 14 82 (.int .u32 (gt x22 (wi64 (x21 - 15)))) (by kernel_rfl) (by kernel_rfl) ?_
       refine GmT.p' 16 84 (.int .u32 (gt x22 (wi64 (x21 - 15)))) (by kernel_rfl) (by kernel_rfl) ?_
       refine GmT.p' 19 87 (.int .u32 (gt x22 (wi64 (x21 - 15)))) (by kernel_rfl) (by kernel_rfl) ?_
       refine GmT.p' 23 91 (iv x21) (by kernel_rfl) (by kernel_rfl) ?_
       refine GmT.p' 24 92 (iv (wi64 (x21 - 16))) (by kernel_rfl) (by kernel_rfl) ?_
       obtain ⟨hg39, h3⟩ := guardS h3
       refine GmT.r (i := 11) 2 (by kernel_rfl) (by kernel_rfl) (Yl.indexArr (d := 79) (T := 54) (k := .i64) (j := wi64 (x21 - 7)) (g := b18) (o := 0) (by kernel_rfl) Go.Proofs.Try.underlying54 ty52 hg39.1 hg39.2) hI ?_
       refine GmT.r (i := 12) 2 (by kernel_rfl) (by kernel_rfl) (Yl.load (d := 80) (T := 52) (v := .int .u32 (gt x22 (wi64 (x21 - 7)))) (by kernel_rfl) (ldB ty52 (l := cA (Value.int .u32) x22) (o := 0 + (wi64 (x21 - 7)).toNat * 1) (v := .int .u32 (gt x22 (wi64 (x21 - 7)))) (ent_refl _) (arr_get _ _ hg39.1 (by have := And.intro hl23 hg39.2; omega)))) hI ?_
       obtain ⟨hg40, h3⟩ := guardS h3
       refine GmT.r (i := 25) 2 (by kernel_rfl) (by kernel_rfl) (Yl.indexArr (d := 93) (T := 54) (k := .i64) (j := wi64 (x21 - 16)) (g := b18) (o := 0) (by kernel_rfl) Go.Proofs.Try.underlying54 ty52 hg40.1 hg40.2) hI ?_
       refine GmT.r (i := 26) 2 (by kernel_rfl) (by kernel_rfl) (Yl.load (d := 94) (T := 52) (v := .int .u32 (gt x22 (wi64 (x21 - 16)))) (by kernel_rfl) (ldB ty52 (l := cA (Value.int .u32) x22) (o := 0 + (wi64 (x21 - 16)).toNat * 1) (v := .int .u32 (gt x22 (wi64 (x21 - 16)))) (ent_refl _) (arr_get _ _ hg40.1 (by have := And.intro hl23 hg40.2; omega)))) hI ?_
       obtain ⟨y42, hc41, h3⟩ := bindS h3
       try dsimp only at h3
       refine GmT.o (i := 2) (by kernel_rfl) (Does.call (d := some 70) (n := 71) (vs := [.int .u32 (gt x22 (wi64 (x21 - 2))), iv 17]) (by kernel_rfl) en71 (c71 w0 w _ _ hI (gt x22 (wi64 (x21 - 2))) 17 _ hc41) ?_)
       rintro e w ⟨rfl, hI⟩
       refine ⟨_, rfl, ?_⟩
       refine ⟨fun _ _ => hI, ?_⟩
       obtain ⟨y44, hc43, h3⟩ := bindS h3
       try dsimp only at h3
       refine GmT.o (i := 4) (by kernel_rfl) (Does.call (d := some 72) (n := 71) (vs := [.int .u32 (gt x22 (wi64 (x21 - 2))), iv 19]) (by kernel_rfl) en71 (c71 w0 w _ _ hI (gt x22 (wi64 (x21 - 2))) 19 _ hc43) ?_)
       rintro e w ⟨rfl, hI⟩
       refine ⟨_, rfl, ?_⟩
       refine ⟨fun _ _ => hI, ?_⟩
       refine GmT.p' 5 73 (.int .u32 (bXor .u32 y42 y44)) (by kernel_rfl) (by kernel_rfl) ?_
       obtain ⟨y46, hc45, h3⟩ := bindS h3
       try dsimp only at h3
       refine GmT.o (i := 7) (by kernel_rfl) (Does.call (d := some 75) (n := 72) (vs := [.int .u32 (gt x22 (wi64 (x21 - 2))), iv 10]) (by kernel_rfl) en72 (c72 w0 w _ _ hI (gt x22 (wi64 (x21 - 2))) 10 _ hc45) ?_)
       rintro e w ⟨rfl, hI⟩
       refine ⟨_, rfl, ?_⟩
       refine ⟨fun _ _ => hI, ?_⟩
       refine GmT.p' 8 76 (.int .u32 (bXor .u32 (bXor .u32 y42 y44) y46)) (by kernel_rfl) (by kernel_rfl) ?_
       refine GmT.p' 13 81 (.int .u32 (wu32 ((bXor .u32 (bXor .u32 y42 y44) y46) + (gt x22 (wi64 (x21 - 7)))))) (by kernel_rfl) (by kernel_rfl) ?_
       obtain ⟨y48, hc47, h3⟩ := bindS h3
       try dsimp only at h3
       refine GmT.o (i := 15) (by kernel_rfl) (Does.call (d := some 83) (n := 71) (vs := [.int .u32 (gt x22 (wi64 (x21 - 15))), iv 7]) (by kernel_rfl) en71 (c71 w0 w _ _ hI (gt x22 (wi64 (x21 - 15))) 7 _ hc47) ?_)
       rintro e w ⟨rfl, hI⟩
       refine ⟨_, rfl, ?_⟩
       refine ⟨fun _ _ => hI, ?_⟩
       obtain ⟨y50, hc49, h3⟩ := bindS h3
       try dsimp only at h3
       refine GmT.o (i := 17) (by kernel_rfl) (Does.call (d := some 85) (n := 71) (vs := [.int .u32 (gt x22 (wi64 (x21 - 15))), iv 18]) (by kernel_rfl) en71 (c71 w0 w _ _ hI (gt x22 (wi64 (x21 - 15))) 18 _ hc49) ?_)
       rintro e w ⟨rfl, hI⟩
       refine ⟨_, rfl, ?_⟩
       refine ⟨fun _ _ => hI, ?_⟩
       refine GmT.p' 18 86 (.int .u32 (bXor .u32 y48 y50)) (by kernel_rfl) (by kernel_rfl) ?_
       obtain ⟨y52, hc51, h3⟩ := bindS h3
       try dsimp only at h3
       refine GmT.o (i := 20) (by kernel_rfl) (Does.call (d := some 88) (n := 72) (vs := [.int .u32 (gt x22 (wi64 (x21 - 15))), iv 3]) (by kernel_rfl) en72 (c72 w0 w _ _ hI (gt x22 (wi64 (x21 - 15))) 3 _ hc51) ?_)
       rintro e w ⟨rfl, hI⟩
       refine ⟨_, rfl, ?_⟩
       refine ⟨fun _ _ => hI, ?_⟩
       refine GmT.p' 21 89 (.int .u32 (bXor .u32 (bXor .u32 y48 y50) y52)) (by kernel_rfl) (by kernel_rfl) ?_
       refine GmT.p' 22 90 (.int .u32 (wu32 ((wu32 ((bXor .u32 (bXor .u32 y42 y44) y46) + (gt x22 (wi64 (x21 - 7))))) + (bXor .u32 (bXor .u32 y48 y50) y52)))) (by kernel_rfl) (by kernel_rfl) ?_
       refine GmT.p' 27 95 (.int .u32 (wu32 ((wu32 ((wu32 ((bXor .u32 (bXor .u32 y42 y44) y46) + (gt x22 (wi64 (x21 - 7))))) + (bXor .u32 (bXor .u32 y48 y50) y52))) + (gt x22 (wi64 (x21 - 16)))))) (by kernel_rfl) (by kernel_rfl) ?_
       obtain ⟨hg53, h3⟩ := guardS h3
       refine GmT.r (i := 28) 2 (by kernel_rfl) (by kernel_rfl) (Yl.indexArr (d := 96) (T := 54) (k := .i64) (j := x21) (g := b18) (o := 0) (by kernel_rfl) Go.Proofs.Try.underlying54 ty52 hg53.1 hg53.2) hI ?_
       refine GmT.o (i := 29) (by kernel_rfl) (Does.storeArr (e := (Value.int .u32)) (xs := x22) (u := wu32 ((wu32 ((wu32 ((bXor .u32 (bXor .u32 y42 y44) y46) + (gt x22 (wi64 (x21 - 7))))) + (bXor .u32 (bXor .u32 y48 y50) y52))) + (gt x22 (wi64 (x21 - 16))))) (T := 52) (b := b18) (j := x21) (by kernel_rfl) ty52 hI (by kernel_rfl) (by kernel_rfl) hg53.1 (by have := And.intro hl23 hg53.2; omega) ?_)
       intro w hI
       refine ⟨fun h => absurd h (by decide), ?_⟩
       refine GmT.done (by kernel_rfl) ?_
       refine Qn.block_normal ?_
       have e := someS h3
       subst e
       exact Qn.thenJ fun a ha => ⟨st x22 x21 (wu32 ((wu32 ((wu32 ((bXor .u32 (bXor .u32 y42 y44) y46) + (gt x22 (wi64 (x21 - 7))))) + (bXor .u32 (bXor .u32 y48 y50) y52))) + (gt x22 (wi64 (x21 - 16))))), rfl, ha.keep [2, 3, 4, 5, 6, 7, 8] (by kernel_rfl), hI, ((st_length _ _ _).trans hl23)⟩
     ·
      rintro a w ⟨x25, rfl, ha, hI, hl26⟩
      try dsimp only at h2
      refine CodT.of ?_ ha
      refine cR [0, 1, 2] (by kernel_rfl) ?_
      refine oP (r := []) [0, 1, 2] (S' := [(2, pb b1), (3, pb b5), (4, pb b9), (5, .string y11), (6, iv x14), (7, pb b18), (8, iv (wi64 (x21 + 1)))]) (by kernel_rfl) ?_
      refine oD ?_
      exact Qn.thenJ fun a ha => ⟨k, Nat.lt_succ_self k, wi64 (x21 + 1), x25, h2, ha.keep [2, 3, 4, 5, 6, 7, 8] (by kernel_rfl), hI, hl26⟩
    ·
     rw [if_neg hb24] at h2
     refine CodT.no' (b := decide (x21 < 64)) (by kernel_rfl) (by simpa using hb24) ?_
     refine CodT.exit ?_
     refine Qn.exit_then ?_
     refine Qn.exit_then ?_
     refine Qn.block ?_
     have e := someS h2
     subst e
     exact Qn.thenJ fun a ha => ⟨x22, rfl, ha.keep [2, 3, 4, 5, 6, 7] (by kernel_rfl), hI, hl23⟩
   ·
    rintro a w ⟨x19, rfl, ha, hI, hl20⟩
    try dsimp only at h1
    refine Qn.of ?_ ha
    refine qT ?_
    refine cQ ?_
    refine cR [0, 1, 2] (by kernel_rfl) ?_
    refine oC (Does.yi (Yl.load (d := 97) (T := 53) (v := .agg (cA (Value.int .u32) x15).toArray) (by kernel_rfl) (ldBN ty53 (l := cA (Value.int .u32) x15) (o := 0) (cs := cA (Value.int .u32) x15) (pick3 _ _ _ _) ((cA_length _ _).trans hl16) (whole _ _ ((cA_length _ _).trans hl16)))) hI ?_)
    refine oC (Does.allocL (d := 12) (T := 53) (cA (Value.int .u32) (List.replicate 8 (0 : Int))) (by kernel_rfl) ty53 hI (by kernel_rfl) ?_)
    intro b54 w hI
    refine oC (Does.storeAll (T := 53) (b := b54) (n := 8) (xs := (List.replicate 8 (0 : Int))) (ys := x15) (by kernel_rfl) ty53 hI (fun _ => rfl) (by kernel_rfl) hl16 ?_)
    intro w hI
    refine oD ?_
    refine qT ?_
    refine cQ ?_
    refine cQ ?_
    refine cR [0] (by kernel_rfl) ?_
    refine oP (r := []) [0] (S' := [(2, pb b1), (3, pb b5), (4, pb b9), (5, .string y11), (6, iv x14), (7, pb b18), (12, pb b54), (13, iv 0)]) (by kernel_rfl) ?_
    refine oD ?_
    refine qT ?_
    obtain ⟨r2, h2, h1⟩ := bindS h1
    refine CodT.meet1 (fun a w => ∃ (x55 : (List Int)), x55 = r2 ∧ Fr 216 [(2, pb b1), (3, pb b5), (4, pb b9), (5, .string y11), (6, iv x14), (12, pb b54)] a ∧ Inv w0 Z w (star (pt b54 (.cells (cA (Value.int .u32) x55).toArray 53 (0, 0))) (star (pt b9 (.cells (cA (Value.int .u32) y7).toArray 54 (0, 0))) (star (pt b5 (.cells (cA (Value.int .u32) x15).toArray 53 (0, 0))) (star (pt b1 (.cells (cA (Value.int .u8) (List.replicate 32 (0 : Int))).toArray 29 (0, 0))) A)))) ∧ x55.length = 8) ?_ ?_
    ·
     refine CodT.block ?_
     refine (fun a ha => wp_loopN (fun k a w => ∃ (x57 : Int) (x58 : (List Int)), ref02_Of.l3 y7 x19 k x57 x58 = some r2 ∧ Fr 216 [(2, pb b1), (3, pb b5), (4, pb b9), (5, .string y11), (6, iv x14), (7, pb b18), (12, pb b54), (13, iv x57)] a ∧ Inv w0 Z w (star (pt b54 (.cells (cA (Value.int .u32) x58).toArray 53 (0, 0))) (star (pt b18 (.cells (cA (Value.int .u32) x19).toArray 54 (0, 0))) (star (pt b9 (.cells (cA (Value.int .u32) y7).toArray 54 (0, 0))) (star (pt b5 (.cells (cA (Value.int .u32) x15).toArray 53 (0, 0))) (star (pt b1 (.cells (cA (Value.int .u8) (List.replicate 32 (0 : Int))).toArray 29 (0, 0))) A))))) ∧ x58.length = 8) ?_ FU a w ⟨0, x15, h2, ha.keep [2, 3, 4, 5, 6, 7, 12, 13] (by kernel_rfl), hI, hl16⟩)
     clear h2 hI
     rintro k a w ⟨x57, x58, h2, ha, hI, hl59⟩
     rcases k with _ | k
     ·
      cases h2
     simp only [ref02_Of.l3] at h2
     refine CodT.of ?_ ha
     refine cQ ?_
     refine cQ ?_
     refine cR [0, 1] (by kernel_rfl) ?_
     refine oP (r := []) [0, 1] (S' := [(2, pb b1), (3, pb b5), (4, pb b9), (5, .string y11), (6, iv x14), (7, pb b18), (12, pb b54), (13, iv x57), (99, .bool (decide (x57 < 64)))]) (by kernel_rfl) ?_
     refine oD ?_
     refine qT ?_
     by_cases hb60 : (decide (x57 < 64)) = true
     ·
      rw [if_pos hb60] at h2
      refine CodT.yes' (b := decide (x57 < 64)) (by kernel_rfl) hb60 ?_
      refine CodT.skip ?_
      refine qT ?_
      refine cQ ?_
      refine CodT.block ?_
      refine cQ ?_
      refine cR [0, 1, 2] (by kernel_rfl) ?_
      refine oP (r := [1, 2]) [0] (S' := [(2, pb b1), (3, pb b5), (4, pb b9), (5, .string y11), (6, iv x14), (7, pb b18), (12, pb b54), (13, iv x57), (102, .pointer (some ⟨b54, 4, none⟩))]) (by kernel_rfl) ?_
      refine oC (Does.yi (Yl.load (d := 103) (T := 52) (v := .int .u32 (gt x58 4)) (by kernel_rfl) (ldB ty52 (l := cA (Value.int .u32) x58) (o := 4) (v := .int .u32 (gt x58 4)) (ent_refl _) (arr_getC _ _ 4 hl59 (by kernel_rfl)))) hI ?_)
      refine oP (r := []) [2] (S' := [(2, pb b1), (3, pb b5), (4, pb b9), (5, .string y11), (6, iv x14), (7, pb b18), (12, pb b54), (13, iv x57), (14, .int .u32 (gt x58 4))]) (by kernel_rfl) ?_
      refine oD ?_
      refine qT ?_
      refine cQ ?_
      refine cR [0, 1, 2] (by kernel_rfl) ?_
      refine oP (r := [1, 2]) [0] (S' := [(2, pb b1), (3, pb b5), (4, pb b9), (5, .string y11), (6, iv x14), (7, pb b18), (12, pb b54), (13, iv x57), (14, .int .u32 (gt x58 4)), (104, pb b54)]) (by kernel_rfl) ?_
      refine oC (Does.yi (Yl.load (d := 105) (T := 52) (v := .int .u32 (gt x58 0)) (by kernel_rfl) (ldB ty52 (l := cA (Value.int .u32) x58) (o := 0) (v := .int .u32 (gt x58 0)) (ent_refl _) (arr_getC _ _ 0 hl59 (by kernel_rfl)))) hI ?_)
      refine oP (r := []) [2] (S' := [(2, pb b1), (3, pb b5), (4, pb b9), (5, .string y11), (6, iv x14), (7, pb b18), (12, pb b54), (13, iv x57), (14, .int .u32 (gt x58 4)), (15, .int .u32 (gt x58 0))]) (by kernel_rfl) ?_
      refine oD ?_
      refine qT ?_
      refine cQ ?_
      refine cR [0, 1, 2] (by kernel_rfl) ?_
      refine oP (r := []) [0, 1, 2] (S' := [(2, pb b1), (3, pb b5), (4, pb b9), (5, .string y11), (6, iv x14), (7, pb b18), (12, pb b54), (13, iv x57), (14, .int .u32 (gt x58 4)), (15, .int .u32 (gt x58 0)), (16, .int .u32 (wu32 (4294967295 - (gt x58 4))))]) (by kernel_rfl) ?_
      refine oD ?_
      refine qT ?_
      refine cQ ?_
      refine CodT.drawI (n := 30) [] (by kernel_rfl) (by kernel_rfl) hI ?_
      intro w hI
      refine GmT.p' 0 108 (.pointer (some ⟨b54, 7, none⟩)) (by kernel_rfl) (by kernel_rfl) ?_
      refine GmT.p' 2 110 (.int .u32 (gt x58 4)) (by kernel_rfl) (by kernel_rfl) ?_
      refine GmT.p' 4 112 (.int .u32 (gt x58 4)) (by kernel_rfl) (by kernel_rfl) ?_
      refine GmT.p' 7 115 (.int .u32 (gt x58 4)) (by kernel_rfl) (by kernel_rfl) ?_
      refine GmT.p' 11 119 (.int .u32 (gt x58 4)) (by kernel_rfl) (by kernel_rfl) ?_
      refine GmT.p' 12 120 (.pointer (some ⟨b54, 5, none⟩)) (by kernel_rfl) (by kernel_rfl) ?_
      refine GmT.p' 15 123 (.int .u32 (wu32 (4294967295 - (gt x58 4)))) (by kernel_rfl) (by kernel_rfl) ?_
      refine GmT.p' 16 124 (.pointer (some ⟨b54, 6, none⟩)) (by kernel_rfl) (by kernel_rfl) ?_
      refine GmT.p' 21 129 (iv x57) (by kernel_rfl) (by kernel_rfl) ?_
      refine GmT.p' 25 133 (iv x57) (by kernel_rfl) (by kernel_rfl) ?_
      refine GmT.r (i := 1) 2 (by kernel_rfl) (by kernel_rfl) (Yl.load (d := 109) (T := 52) (v := .int .u32 (gt x58 7)) (by kernel_rfl) (ldB ty52 (l := cA (Value.int .u32) x58) (o := 7) (v := .int .u32 (gt x58 7)) (ent_refl _) (arr_getC _ _ 7 hl59 (by kernel_rfl)))) hI ?_
      refine GmT.r (i := 13) 2 (by kernel_rfl) (by kernel_rfl) (Yl.load (d := 121) (T := 52) (v := .int .u32 (gt x58 5)) (by kernel_rfl) (ldB ty52 (l := cA (Value.int .u32) x58) (o := 5) (v := .int .u32 (gt x58 5)) (ent_refl _) (arr_getC _ _ 5 hl59 (by kernel_rfl)))) hI ?_
      refine GmT.p' 14 122 (.int .u32 (bAnd .u32 (gt x58 4) (gt x58 5))) (by kernel_rfl) (by kernel_rfl) ?_
      refine GmT.r (i := 17) 2 (by kernel_rfl) (by kernel_rfl) (Yl.load (d := 125) (T := 52) (v := .int .u32 (gt x58 6)) (by kernel_rfl) (ldB ty52 (l := cA (Value.int .u32) x58) (o := 6) (v := .int .u32 (gt x58 6)) (ent_refl _) (arr_getC _ _ 6 hl59 (by kernel_rfl)))) hI ?_
      refine GmT.p' 18 126 (.int .u32 (bAnd .u32 (wu32 (4294967295 - (gt x58 4))) (gt x58 6))) (by kernel_rfl) (by kernel_rfl) ?_
      refine GmT.p' 19 127 (.int .u32 (bXor .u32 (bAnd .u32 (gt x58 4) (gt x58 5)) (bAnd .u32 (wu32 (4294967295 - (gt x58 4))) (gt x58 6)))) (by kernel_rfl) (by kernel_rfl) ?_
      obtain ⟨hg61, h2⟩ := guardS h2
      refine GmT.r (i := 22) 2 (by kernel_rfl) (by kernel_rfl) (Yl.indexArr (d := 130) (T := 54) (k := .i64) (j := x57) (g := b9) (o := 0) (by kernel_rfl) Go.Proofs.Try.underlying54 ty52 hg61.1 hg61.2) hI ?_
      refine GmT.r (i := 23) 2 (by kernel_rfl) (by kernel_rfl) (Yl.load (d := 131) (T := 52) (v := .int .u32 (gt y7 x57)) (by kernel_rfl) (ldB ty52 (l := cA (Value.int .u32) y7) (o := 0 + x57.toNat * 1) (v := .int .u32 (gt y7 x57)) (pick3 _ _ _ _) (arr_get _ _ hg61.1 (by have := And.intro hl8 hg61.2; omega)))) hI ?_
      obtain ⟨hg62, h2⟩ := guardS h2
      refine GmT.r (i := 26) 2 (by kernel_rfl) (by kernel_rfl) (Yl.indexArr (d := 134) (T := 54) (k := .i64) (j := x57) (g := b18) (o := 0) (by kernel_rfl) Go.Proofs.Try.underlying54 ty52 hg62.1 hg62.2) hI ?_
      refine GmT.r (i := 27) 2 (by kernel_rfl) (by kernel_rfl) (Yl.load (d := 135) (T := 52) (v := .int .u32 (gt x19 x57)) (by kernel_rfl) (ldB ty52 (l := cA (Value.int .u32) x19) (o := 0 + x57.toNat * 1) (v := .int .u32 (gt x19 x57)) (pick2 _ _ _) (arr_get _ _ hg62.1 (by have := And.intro hl20 hg62.2; omega)))) hI ?_
      obtain ⟨y64, hc63, h2⟩ := bindS h2
      try dsimp only at h2
      refine GmT.o (i := 3) (by kernel_rfl) (Does.call (d := some 111) (n := 71) (vs := [.int .u32 (gt x58 4), iv 6]) (by kernel_rfl) en71 (c71 w0 w _ _ hI (gt x58 4) 6 _ hc63) ?_)
      rintro e w ⟨rfl, hI⟩
      refine ⟨_, rfl, ?_⟩
      refine ⟨fun _ _ => hI, ?_⟩
      obtain ⟨y66, hc65, h2⟩ := bindS h2
      try dsimp only at h2
      refine GmT.o (i := 5) (by kernel_rfl) (Does.call (d := some 113) (n := 71) (vs := [.int .u32 (gt x58 4), iv 11]) (by kernel_rfl) en71 (c71 w0 w _ _ hI (gt x58 4) 11 _ hc65) ?_)
      rintro e w ⟨rfl, hI⟩
      refine ⟨_, rfl, ?_⟩
      refine ⟨fun _ _ => hI, ?_⟩
      refine GmT.p' 6 114 (.int .u32 (bXor .u32 y64 y66)) (by kernel_rfl) (by kernel_rfl) ?_
      obtain ⟨y68, hc67, h2⟩ := bindS h2
      try dsimp only at h2
      refine GmT.o (i := 8) (by kernel_rfl) (Does.call (d := some 116) (n := 71) (vs := [.int .u32 (gt x58 4), iv 25]) (by kernel_rfl) en71 (c71 w0 w _ _ hI (gt x58 4) 25 _ hc67) ?_)
      rintro e w ⟨rfl, hI⟩
      refine ⟨_, rfl, ?_⟩
      refine ⟨fun _ _ => hI, ?_⟩
      refine GmT.p' 9 117 (.int .u32 (bXor .u32 (bXor .u32 y64 y66) y68)) (by kernel_rfl) (by kernel_rfl) ?_
      refine GmT.p' 10 118 (.int .u32 (wu32 ((gt x58 7) + (bXor .u32 (bXor .u32 y64 y66) y68)))) (by kernel_rfl) (by kernel_rfl) ?_
      refine GmT.p' 20 128 (.int .u32 (wu32 ((wu32 ((gt x58 7) + (bXor .u32 (bXor .u32 y64 y66) y68))) + (bXor .u32 (bAnd .u32 (gt x58 4) (gt x58 5)) (bAnd .u32 (wu32 (4294967295 - (gt x58 4))) (gt x58 6)))))) (by kernel_rfl) (by kernel_rfl) ?_
      refine GmT.p' 24 132 (.int .u32 (wu32 ((wu32 ((wu32 ((gt x58 7) + (bXor .u32 (bXor .u32 y64 y66) y68))) + (bXor .u32 (bAnd .u32 (gt x58 4) (gt x58 5)) (bAnd .u32 (wu32 (4294967295 - (gt x58 4))) (gt x58 6))))) + (gt y7 x57)))) (by kernel_rfl) (by kernel_rfl) ?_
      refine GmT.p' 28 136 (.int .u32 (wu32 ((wu32 ((wu32 ((wu32 ((gt x58 7) + (bXor .u32 (bXor .u32 y64 y66) y68))) + (bXor .u32 (bAnd .u32 (gt x58 4) (gt x58 5)) (bAnd .u32 (wu32 (4294967295 - (gt x58 4))) (gt x58 6))))) + (gt y7 x57))) + (gt x19 x57)))) (by kernel_rfl) (by kernel_rfl) ?_
      refine GmT.p' 29 17 (.int .u32 (wu32 ((wu32 ((wu32 ((wu32 ((gt x58 7) + (bXor .u32 (bXor .u32 y64 y66) y68))) + (bXor .u32 (bAnd .u32 (gt x58 4) (gt x58 5)) (bAnd .u32 (wu32 (4294967295 - (gt x58 4))) (gt x58 6))))) + (gt y7 x57))) + (gt x19 x57)))) (by kernel_rfl) (by kernel_rfl) ?_
      refine GmT.done (by kernel_rfl) ?_
      refine qT ?_
      refine cQ ?_
      refine CodT.drawI (n := 25) [] (by kernel_rfl) (by kernel_rfl) hI ?_
      intro w hI
      refine GmT.p' 0 137 (.int .u32 (gt x58 0)) (by kernel_rfl) (by kernel_rfl) ?_
      refine GmT.p' 2 139 (.int .u32 (gt x58 0)) (by kernel_rfl) (by kernel_rfl) ?_
      refine GmT.p' 5 142 (.int .u32 (gt x58 0)) (by kernel_rfl) (by kernel_rfl) ?_
      refine GmT.p' 8 145 (.int .u32 (gt x58 0)) (by kernel_rfl) (by kernel_rfl) ?_
      refine GmT.p' 9 146 (.pointer (some ⟨b54, 1, none⟩)) (by kernel_rfl) (by kernel_rfl) ?_
      refine GmT.p' 12 149 (.int .u32 (gt x58 0)) (by kernel_rfl) (by kernel_rfl) ?_
      refine GmT.p' 13 150 (.pointer (some ⟨b54, 2, none⟩)) (by kernel_rfl) (by kernel_rfl) ?_
      refine GmT.p' 17 154 (.pointer (some ⟨b54, 1, none⟩)) (by kernel_rfl) (by kernel_rfl) ?_
      refine GmT.p' 19 156 (.pointer (some ⟨b54, 2, none⟩)) (by kernel_rfl) (by kernel_rfl) ?_
      refine GmT.r (i := 10) 2 (by kernel_rfl) (by kernel_rfl) (Yl.load (d := 147) (T := 52) (v := .int .u32 (gt x58 1)) (by kernel_rfl) (ldB ty52 (l := cA (Value.int .u32) x58) (o := 1) (v := .int .u32 (gt x58 1)) (ent_refl _) (arr_getC _ _ 1 hl59 (by kernel_rfl)))) hI ?_
      refine GmT.p' 11 148 (.int .u32 (bAnd .u32 (gt x58 0) (gt x58 1))) (by kernel_rfl) (by kernel_rfl) ?_
      refine GmT.r (i := 14) 2 (by kernel_rfl) (by kernel_rfl) (Yl.load (d := 151) (T := 52) (v := .int .u32 (gt x58 2)) (by kernel_rfl) (ldB ty52 (l := cA (Value.int .u32) x58) (o := 2) (v := .int .u32 (gt x58 2)) (ent_refl _) (arr_getC _ _ 2 hl59 (by kernel_rfl)))) hI ?_
      refine GmT.p' 15 152 (.int .u32 (bAnd .u32 (gt x58 0) (gt x58 2))) (by kernel_rfl) (by kernel_rfl) ?_
      refine GmT.p' 16 153 (.int .u32 (bXor .u32 (bAnd .u32 (gt x58 0) (gt x58 1)) (bAnd .u32 (gt x58 0) (gt x58 2)))) (by kernel_rfl) (by kernel_rfl) ?_
      refine GmT.r (i := 18) 2 (by kernel_rfl) (by kernel_rfl) (Yl.load (d := 155) (T := 52) (v := .int .u32 (gt x58 1)) (by kernel_rfl) (ldB ty52 (l := cA (Value.int .u32) x58) (o := 1) (v := .int .u32 (gt x58 1)) (ent_refl _) (arr_getC _ _ 1 hl59 (by kernel_rfl)))) hI ?_
      refine GmT.r (i := 20) 2 (by kernel_rfl) (by kernel_rfl) (Yl.load (d := 157) (T := 52) (v := .int .u32 (gt x58 2)) (by kernel_rfl) (ldB ty52 (l := cA (Value.int .u32) x58) (o := 2) (v := .int .u32 (gt x58 2)) (ent_refl _) (arr_getC _ _ 2 hl59 (by kernel_rfl)))) hI ?_
      refine GmT.p' 21 158 (.int .u32 (bAnd .u32 (gt x58 1) (gt x58 2))) (by kernel_rfl) (by kernel_rfl) ?_
      refine GmT.p' 22 159 (.int .u32 (bXor .u32 (bXor .u32 (bAnd .u32 (gt x58 0) (gt x58 1)) (bAnd .u32 (gt x58 0) (gt x58 2))) (bAnd .u32 (gt x58 1) (gt x58 2)))) (by kernel_rfl) (by kernel_rfl) ?_
      obtain ⟨y70, hc69, h2⟩ := bindS h2
      try dsimp only at h2
      refine GmT.o (i := 1) (by kernel_rfl) (Does.call (d := some 138) (n := 71) (vs := [.int .u32 (gt x58 0), iv 2]) (by kernel_rfl) en71 (c71 w0 w _ _ hI (gt x58 0) 2 _ hc69) ?_)
      rintro e w ⟨rfl, hI⟩
      refine ⟨_, rfl, ?_⟩
      refine ⟨fun _ _ => hI, ?_⟩
      obtain ⟨y72, hc71, h2⟩ := bindS h2
      try dsimp only at h2
      refine GmT.o (i := 3) (by kernel_rfl) (Does.call (d := some 140) (n := 71) (vs := [.int .u32 (gt x58 0), iv 13]) (by kernel_rfl) en71 (c71 w0 w _ _ hI (gt x58 0) 13 _ hc71) ?_)
      rintro e w ⟨rfl, hI⟩
      refine ⟨_, rfl, ?_⟩
      refine ⟨fun _ _ => hI, ?_⟩
      refine GmT.p' 4 141 (.int .u32 (bXor .u32 y70 y72)) (by kernel_rfl) (by kernel_rfl) ?_
      obtain ⟨y74, hc73, h2⟩ := bindS h2
      try dsimp only at h2
      refine GmT.o (i := 6) (by kernel_rfl) (Does.call (d := some 143) (n := 71) (vs := [.int .u32 (gt x58 0), iv 22]) (by kernel_rfl) en71 (c71 w0 w _ _ hI (gt x58 0) 22 _ hc73) ?_)
      rintro e w ⟨rfl, hI⟩
      refine ⟨_, rfl, ?_⟩
      refine ⟨fun _ _ => hI, ?_⟩
      refine GmT.p' 7 144 (.int .u32 (bXor .u32 (bXor .u32 y70 y72) y74)) (by kernel_rfl) (by kernel_rfl) ?_
      refine GmT.p' 23 160 (.int .u32 (wu32 ((bXor .u32 (bXor .u32 y70 y72) y74) + (bXor .u32 (bXor .u32 (bAnd .u32 (gt x58 0) (gt x58 1)) (bAnd .u32 (gt x58 0) (gt x58 2))) (bAnd .u32 (gt x58 1) (gt x58 2)))))) (by kernel_rfl) (by kernel_rfl) ?_
      refine GmT.p' 24 18 (.int .u32 (wu32 ((bXor .u32 (bXor .u32 y70 y72) y74) + (bXor .u32 (bXor .u32 (bAnd .u32 (gt x58 0) (gt x58 1)) (bAnd .u32 (gt x58 0) (gt x58 2))) (bAnd .u32 (gt x58 1) (gt x58 2)))))) (by kernel_rfl) (by kernel_rfl) ?_
      refine GmT.done (by kernel_rfl) ?_
      refine qT ?_
      refine cR [0, 1, 2, 3, 4, 5, 6, 7, 8, 9, 10, 11, 12, 13, 14, 15, 16, 17, 18, 19, 20] (by kernel_rfl) ?_
      refine oP (r := [4, 5, 6, 7, 8, 9, 10, 11, 12, 13, 14, 15, 16, 17, 18, 19, 20]) [0, 1, 2, 3] (S' := [(2, pb b1), (3, pb b5), (4, pb b9), (5, .string y11), (6, iv x14), (7, pb b18), (12, pb b54), (13, iv x57), (17, .int .u32 (wu32 ((wu32 ((wu32 ((wu32 ((gt x58 7) + (bXor .u32 (bXor .u32 y64 y66) y68))) + (bXor .u32 (bAnd .u32 (gt x58 4) (gt x58 5)) (bAnd .u32 (wu32 (4294967295 - (gt x58 4))) (gt x58 6))))) + (gt y7 x57))) + (gt x19 x57)))), (163, .int .u32 (wu32 ((wu32 ((wu32 ((wu32 ((wu32 ((gt x58 7) + (bXor .u32 (bXor .u32 y64 y66) y68))) + (bXor .u32 (bAnd .u32 (gt x58 4) (gt x58 5)) (bAnd .u32 (wu32 (4294967295 - (gt x58 4))) (gt x58 6))))) + (gt y7 x57))) + (gt x19 x57))) + (wu32 ((bXor .u32 (bXor .u32 y70 y72) y74) + (bXor .u32 (bXor .u32 (bAnd .u32 (gt x58 0) (gt x58 1)) (bAnd .u32 (gt x58 0) (gt x58 2))) (bAnd .u32 (gt x58 1) (gt x58 2)))))))), (164, pb b54)]) (by kernel_rfl) ?_
      refine oC (Does.yi (Yl.load (d := 165) (T := 52) (v := .int .u32 (gt x58 0)) (by kernel_rfl) (ldB ty52 (l := cA (Value.int .u32) x58) (o := 0) (v := .int .u32 (gt x58 0)) (ent_refl _) (arr_getC _ _ 0 hl59 (by kernel_rfl)))) hI ?_)
      refine oP (r := [6, 7, 8, 9, 10, 11, 12, 13, 14, 15, 16, 17, 18, 19, 20]) [5] (S' := [(2, pb b1), (3, pb b5), (4, pb b9), (5, .string y11), (6, iv x14), (7, pb b18), (12, pb b54), (13, iv x57), (17, .int .u32 (wu32 ((wu32 ((wu32 ((wu32 ((gt x58 7) + (bXor .u32 (bXor .u32 y64 y66) y68))) + (bXor .u32 (bAnd .u32 (gt x58 4) (gt x58 5)) (bAnd .u32 (wu32 (4294967295 - (gt x58 4))) (gt x58 6))))) + (gt y7 x57))) + (gt x19 x57)))), (163, .int .u32 (wu32 ((wu32 ((wu32 ((wu32 ((wu32 ((gt x58 7) + (bXor .u32 (bXor .u32 y64 y66) y68))) + (bXor .u32 (bAnd .u32 (gt x58 4) (gt x58 5)) (bAnd .u32 (wu32 (4294967295 - (gt x58 4))) (gt x58 6))))) + (gt y7 x57))) + (gt x19 x57))) + (wu32 ((bXor .u32 (bXor .u32 y70 y72) y74) + (bXor .u32 (bXor .u32 (bAnd .u32 (gt x58 0) (gt x58 1)) (bAnd .u32 (gt x58 0) (gt x58 2))) (bAnd .u32 (gt x58 1) (gt x58 2)))))))), (165, .int .u32 (gt x58 0)), (166, .pointer (some ⟨b54, 1, none⟩))]) (by kernel_rfl) ?_
      refine oC (Does.yi (Yl.load (d := 167) (T := 52) (v := .int .u32 (gt x58 1)) (by kernel_rfl) (ldB ty52 (l := cA (Value.int .u32) x58) (o := 1) (v := .int .u32 (gt x58 1)) (ent_refl _) (arr_getC _ _ 1 hl59 (by kernel_rfl)))) hI ?_)
      refine oP (r := [8, 9, 10, 11, 12, 13, 14, 15, 16, 17, 18, 19, 20]) [7] (S' := [(2, pb b1), (3, pb b5), (4, pb b9), (5, .string y11), (6, iv x14), (7, pb b18), (12, pb b54), (13, iv x57), (17, .int .u32 (wu32 ((wu32 ((wu32 ((wu32 ((gt x58 7) + (bXor .u32 (bXor .u32 y64 y66) y68))) + (bXor .u32 (bAnd .u32 (gt x58 4) (gt x58 5)) (bAnd .u32 (wu32 (4294967295 - (gt x58 4))) (gt x58 6))))) + (gt y7 x57))) + (gt x19 x57)))), (163, .int .u32 (wu32 ((wu32 ((wu32 ((wu32 ((wu32 ((gt x58 7) + (bXor .u32 (bXor .u32 y64 y66) y68))) + (bXor .u32 (bAnd .u32 (gt x58 4) (gt x58 5)) (bAnd .u32 (wu32 (4294967295 - (gt x58 4))) (gt x58 6))))) + (gt y7 x57))) + (gt x19 x57))) + (wu32 ((bXor .u32 (bXor .u32 y70 y72) y74) + (bXor .u32 (bXor .u32 (bAnd .u32 (gt x58 0) (gt x58 1)) (bAnd .u32 (gt x58 0) (gt x58 2))) (bAnd .u32 (gt x58 1) (gt x58 2)))))))), (165, .int .u32 (gt x58 0)), (167, .int .u32 (gt x58 1)), (168, .pointer (some ⟨b54, 2, none⟩))]) (by kernel_rfl) ?_
      refine oC (Does.yi (Yl.load (d := 169) (T := 52) (v := .int .u32 (gt x58 2)) (by kernel_rfl) (ldB ty52 (l := cA (Value.int .u32) x58) (o := 2) (v := .int .u32 (gt x58 2)) (ent_refl _) (arr_getC _ _ 2 hl59 (by kernel_rfl)))) hI ?_)
      refine oP (r := [10, 11, 12, 13, 14, 15, 16, 17, 18, 19, 20]) [9] (S' := [(2, pb b1), (3, pb b5), (4, pb b9), (5, .string y11), (6, iv x14), (7, pb b18), (12, pb b54), (13, iv x57), (17, .int .u32 (wu32 ((wu32 ((wu32 ((wu32 ((gt x58 7) + (bXor .u32 (bXor .u32 y64 y66) y68))) + (bXor .u32 (bAnd .u32 (gt x58 4) (gt x58 5)) (bAnd .u32 (wu32 (4294967295 - (gt x58 4))) (gt x58 6))))) + (gt y7 x57))) + (gt x19 x57)))), (163, .int .u32 (wu32 ((wu32 ((wu32 ((wu32 ((wu32 ((gt x58 7) + (bXor .u32 (bXor .u32 y64 y66) y68))) + (bXor .u32 (bAnd .u32 (gt x58 4) (gt x58 5)) (bAnd .u32 (wu32 (4294967295 - (gt x58 4))) (gt x58 6))))) + (gt y7 x57))) + (gt x19 x57))) + (wu32 ((bXor .u32 (bXor .u32 y70 y72) y74) + (bXor .u32 (bXor .u32 (bAnd .u32 (gt x58 0) (gt x58 1)) (bAnd .u32 (gt x58 0) (gt x58 2))) (bAnd .u32 (gt x58 1) (gt x58 2)))))))), (165, .int .u32 (gt x58 0)), (167, .int .u32 (gt x58 1)), (169, .int .u32 (gt x58 2)), (170, .pointer (some ⟨b54, 3, none⟩))]) (by kernel_rfl) ?_
      refine oC (Does.yi (Yl.load (d := 171) (T := 52) (v := .int .u32 (gt x58 3)) (by kernel_rfl) (ldB ty52 (l := cA (Value.int .u32) x58) (o := 3) (v := .int .u32 (gt x58 3)) (ent_refl _) (arr_getC _ _ 3 hl59 (by kernel_rfl)))) hI ?_)
      refine oP (r := [14, 15, 16, 17, 18, 19, 20]) [11, 12, 13] (S' := [(2, pb b1), (3, pb b5), (4, pb b9), (5, .string y11), (6, iv x14), (7, pb b18), (12, pb b54), (13, iv x57), (163, .int .u32 (wu32 ((wu32 ((wu32 ((wu32 ((wu32 ((gt x58 7) + (bXor .u32 (bXor .u32 y64 y66) y68))) + (bXor .u32 (bAnd .u32 (gt x58 4) (gt x58 5)) (bAnd .u32 (wu32 (4294967295 - (gt x58 4))) (gt x58 6))))) + (gt y7 x57))) + (gt x19 x57))) + (wu32 ((bXor .u32 (bXor .u32 y70 y72) y74) + (bXor .u32 (bXor .u32 (bAnd .u32 (gt x58 0) (gt x58 1)) (bAnd .u32 (gt x58 0) (gt x58 2))) (bAnd .u32 (gt x58 1) (gt x58 2)))))))), (165, .int .u32 (gt x58 0)), (167, .int .u32 (gt x58 1)), (169, .int .u32 (gt x58 2)), (173, .int .u32 (wu32 ((gt x58 3) + (wu32 ((wu32 ((wu32 ((wu32 ((gt x58 7) + (bXor .u32 (bXor .u32 y64 y66) y68))) + (bXor .u32 (bAnd .u32 (gt x58 4) (gt x58 5)) (bAnd .u32 (wu32 (4294967295 - (gt x58 4))) (gt x58 6))))) + (gt y7 x57))) + (gt x19 x57)))))), (174, .pointer (some ⟨b54, 4, none⟩))]) (by kernel_rfl) ?_
      refine oC (Does.yi (Yl.load (d := 175) (T := 52) (v := .int .u32 (gt x58 4)) (by kernel_rfl) (ldB ty52 (l := cA (Value.int .u32) x58) (o := 4) (v := .int .u32 (gt x58 4)) (ent_refl _) (arr_getC _ _ 4 hl59 (by kernel_rfl)))) hI ?_)
      refine oP (r := [16, 17, 18, 19, 20]) [15] (S' := [(2, pb b1), (3, pb b5), (4, pb b9), (5, .string y11), (6, iv x14), (7, pb b18), (12, pb b54), (13, iv x57), (163, .int .u32 (wu32 ((wu32 ((wu32 ((wu32 ((wu32 ((gt x58 7) + (bXor .u32 (bXor .u32 y64 y66) y68))) + (bXor .u32 (bAnd .u32 (gt x58 4) (gt x58 5)) (bAnd .u32 (wu32 (4294967295 - (gt x58 4))) (gt x58 6))))) + (gt y7 x57))) + (gt x19 x57))) + (wu32 ((bXor .u32 (bXor .u32 y70 y72) y74) + (bXor .u32 (bXor .u32 (bAnd .u32 (gt x58 0) (gt x58 1)) (bAnd .u32 (gt x58 0) (gt x58 2))) (bAnd .u32 (gt x58 1) (gt x58 2)))))))), (165, .int .u32 (gt x58 0)), (167, .int .u32 (gt x58 1)), (169, .int .u32 (gt x58 2)), (173, .int .u32 (wu32 ((gt x58 3) + (wu32 ((wu32 ((wu32 ((wu32 ((gt x58 7) + (bXor .u32 (bXor .u32 y64 y66) y68))) + (bXor .u32 (bAnd .u32 (gt x58 4) (gt x58 5)) (bAnd .u32 (wu32 (4294967295 - (gt x58 4))) (gt x58 6))))) + (gt y7 x57))) + (gt x19 x57)))))), (175, .int .u32 (gt x58 4)), (176, .pointer (some ⟨b54, 5, none⟩))]) (by kernel_rfl) ?_
      refine oC (Does.yi (Yl.load (d := 177) (T := 52) (v := .int .u32 (gt x58 5)) (by kernel_rfl) (ldB ty52 (l := cA (Value.int .u32) x58) (o := 5) (v := .int .u32 (gt x58 5)) (ent_refl _) (arr_getC _ _ 5 hl59 (by kernel_rfl)))) hI ?_)
      refine oP (r := [18, 19, 20]) [17] (S' := [(2, pb b1), (3, pb b5), (4, pb b9), (5, .string y11), (6, iv x14), (7, pb b18), (12, pb b54), (13, iv x57), (163, .int .u32 (wu32 ((wu32 ((wu32 ((wu32 ((wu32 ((gt x58 7) + (bXor .u32 (bXor .u32 y64 y66) y68))) + (bXor .u32 (bAnd .u32 (gt x58 4) (gt x58 5)) (bAnd .u32 (wu32 (4294967295 - (gt x58 4))) (gt x58 6))))) + (gt y7 x57))) + (gt x19 x57))) + (wu32 ((bXor .u32 (bXor .u32 y70 y72) y74) + (bXor .u32 (bXor .u32 (bAnd .u32 (gt x58 0) (gt x58 1)) (bAnd .u32 (gt x58 0) (gt x58 2))) (bAnd .u32 (gt x58 1) (gt x58 2)))))))), (165, .int .u32 (gt x58 0)), (167, .int .u32 (gt x58 1)), (169, .int .u32 (gt x58 2)), (173, .int .u32 (wu32 ((gt x58 3) + (wu32 ((wu32 ((wu32 ((wu32 ((gt x58 7) + (bXor .u32 (bXor .u32 y64 y66) y68))) + (bXor .u32 (bAnd .u32 (gt x58 4) (gt x58 5)) (bAnd .u32 (wu32 (4294967295 - (gt x58 4))) (gt x58 6))))) + (gt y7 x57))) + (gt x19 x57)))))), (175, .int .u32 (gt x58 4)), (177, .int .u32 (gt x58 5)), (178, .pointer (some ⟨b54, 6, none⟩))]) (by kernel_rfl) ?_
      refine oC (Does.yi (Yl.load (d := 179) (T := 52) (v := .int .u32 (gt x58 6)) (by kernel_rfl) (ldB ty52 (l := cA (Value.int .u32) x58) (o := 6) (v := .int .u32 (gt x58 6)) (ent_refl _) (arr_getC _ _ 6 hl59 (by kernel_rfl)))) hI ?_)
      refine oP (r := [20]) [19] (S' := [(2, pb b1), (3, pb b5), (4, pb b9), (5, .string y11), (6, iv x14), (7, pb b18), (12, pb b54), (13, iv x57), (180, .agg (cA (Value.int .u32) ([wu32 ((wu32 ((wu32 ((wu32 ((wu32 ((gt x58 7) + (bXor .u32 (bXor .u32 y64 y66) y68))) + (bXor .u32 (bAnd .u32 (gt x58 4) (gt x58 5)) (bAnd .u32 (wu32 (4294967295 - (gt x58 4))) (gt x58 6))))) + (gt y7 x57))) + (gt x19 x57))) + (wu32 ((bXor .u32 (bXor .u32 y70 y72) y74) + (bXor .u32 (bXor .u32 (bAnd .u32 (gt x58 0) (gt x58 1)) (bAnd .u32 (gt x58 0) (gt x58 2))) (bAnd .u32 (gt x58 1) (gt x58 2)))))), gt x58 0, gt x58 1, gt x58 2, wu32 ((gt x58 3) + (wu32 ((wu32 ((wu32 ((wu32 ((gt x58 7) + (bXor .u32 (bXor .u32 y64 y66) y68))) + (bXor .u32 (bAnd .u32 (gt x58 4) (gt x58 5)) (bAnd .u32 (wu32 (4294967295 - (gt x58 4))) (gt x58 6))))) + (gt y7 x57))) + (gt x19 x57)))), gt x58 4, gt x58 5, gt x58 6] : List Int)).toArray)]) (by kernel_rfl) ?_
      refine oC (Does.storeAll (T := 53) (b := b54) (n := 8) (xs := x58) (ys := ([wu32 ((wu32 ((wu32 ((wu32 ((wu32 ((gt x58 7) + (bXor .u32 (bXor .u32 y64 y66) y68))) + (bXor .u32 (bAnd .u32 (gt x58 4) (gt x58 5)) (bAnd .u32 (wu32 (4294967295 - (gt x58 4))) (gt x58 6))))) + (gt y7 x57))) + (gt x19 x57))) + (wu32 ((bXor .u32 (bXor .u32 y70 y72) y74) + (bXor .u32 (bXor .u32 (bAnd .u32 (gt x58 0) (gt x58 1)) (bAnd .u32 (gt x58 0) (gt x58 2))) (bAnd .u32 (gt x58 1) (gt x58 2)))))), gt x58 0, gt x58 1, gt x58 2, wu32 ((gt x58 3) + (wu32 ((wu32 ((wu32 ((wu32 ((gt x58 7) + (bXor .u32 (bXor .u32 y64 y66) y68))) + (bXor .u32 (bAnd .u32 (gt x58 4) (gt x58 5)) (bAnd .u32 (wu32 (4294967295 - (gt x58 4))) (gt x58 6))))) + (gt y7 x57))) + (gt x19 x57)))), gt x58 4, gt x58 5, gt x58 6] : List Int)) (by kernel_rfl) ty53 hI (fun _ => rfl) hl59 (by kernel_rfl) ?_)
      intro w hI
      refine oD ?_
      refine Qn.block_normal ?_
      refine qT ?_
      refine cR [0, 1, 2] (by kernel_rfl) ?_
      refine oP (r := []) [0, 1, 2] (S' := [(2, pb b1), (3, pb b5), (4, pb b9), (5, .string y11), (6, iv x14), (7, pb b18), (12, pb b54), (13, iv (wi64 (x57 + 1)))]) (by kernel_rfl) ?_
      refine oD ?_
      exact Qn.thenJ fun a ha => ⟨k, Nat.lt_succ_self k, wi64 (x57 + 1), ([wu32 ((wu32 ((wu32 ((wu32 ((wu32 ((gt x58 7) + (bXor .u32 (bXor .u32 y64 y66) y68))) + (bXor .u32 (bAnd .u32 (gt x58 4) (gt x58 5)) (bAnd .u32 (wu32 (4294967295 - (gt x58 4))) (gt x58 6))))) + (gt y7 x57))) + (gt x19 x57))) + (wu32 ((bXor .u32 (bXor .u32 y70 y72) y74) + (bXor .u32 (bXor .u32 (bAnd .u32 (gt x58 0) (gt x58 1)) (bAnd .u32 (gt x58 0) (gt x58 2))) (bAnd .u32 (gt x58 1) (gt x58 2)))))), gt x58 0, gt x58 1, gt x58 2, wu32 ((gt x58 3) + (wu32 ((wu32 ((wu32 ((wu32 ((gt x58 7) + (bXor .u32 (bXor .u32 y64 y66) y68))) + (bXor .u32 (bAnd .u32 (gt x58 4) (gt x58 5)) (bAnd .u32 (wu32 (4294967295 - (gt x58 4))) (gt x58 6))))) + (gt y7 x57))) + (gt x19 x57)))), gt x58 4, gt x58 5, gt x58 6] : List Int), h2, ha.keep [2, 3, 4, 5, 6, 7, 12, 13] (by kernel_rfl), hI, (by kernel_rfl)⟩
     ·
      rw [if_neg hb60] at h2
      refine CodT.no' (b := decide (x57 < 64)) (by kernel_rfl) (by simpa using hb60) ?_
      refine CodT.exit ?_
      refine Qn.exit_then ?_
      refine Qn.exit_then ?_
      refine Qn.block ?_
      have hI := hI.mono (pick2 _ _ _)
      have hI := hI.drop
      have e := someS h2
      subst e
      exact Qn.thenJ fun a ha => ⟨x58, rfl, ha.keep [2, 3, 4, 5, 6, 12] (by kernel_rfl), hI, hl59⟩
    ·
     rintro a w ⟨x55, rfl, ha, hI, hl56⟩
     try dsimp only at h1
     refine Qn.of ?_ ha
     refine qT ?_
     refine cQ ?_
     refine cR [0] (by kernel_rfl) ?_
     refine oP (r := []) [0] (S' := [(2, pb b1), (3, pb b5), (4, pb b9), (5, .string y11), (6, iv x14), (12, pb b54), (19, iv 0)]) (by kernel_rfl) ?_
     refine oD ?_
     refine qT ?_
     obtain ⟨r2, h2, h1⟩ := bindS h1
     refine CodT.meet1 (fun a w => ∃ (x75 : (List Int)), x75 = r2 ∧ Fr 216 [(2, pb b1), (3, pb b5), (4, pb b9), (5, .string y11), (6, iv x14)] a ∧ Inv w0 Z w (star (pt b9 (.cells (cA (Value.int .u32) y7).toArray 54 (0, 0))) (star (pt b5 (.cells (cA (Value.int .u32) x75).toArray 53 (0, 0))) (star (pt b1 (.cells (cA (Value.int .u8) (List.replicate 32 (0 : Int))).toArray 29 (0, 0))) A))) ∧ x75.length = 8) ?_ ?_
     ·
      refine CodT.block ?_
      refine (fun a ha => wp_loopN (fun k a w => ∃ (x77 : Int) (x78 : (List Int)), ref02_Of.l4 x55 k x77 x78 = some r2 ∧ Fr 216 [(2, pb b1), (3, pb b5), (4, pb b9), (5, .string y11), (6, iv x14), (12, pb b54), (19, iv x77)] a ∧ Inv w0 Z w (star (pt b54 (.cells (cA (Value.int .u32) x55).toArray 53 (0, 0))) (star (pt b9 (.cells (cA (Value.int .u32) y7).toArray 54 (0, 0))) (star (pt b5 (.cells (cA (Value.int .u32) x78).toArray 53 (0, 0))) (star (pt b1 (.cells (cA (Value.int .u8) (List.replicate 32 (0 : Int))).toArray 29 (0, 0))) A)))) ∧ x78.length = 8) ?_ FU a w ⟨0, x15, h2, ha.keep [2, 3, 4, 5, 6, 12, 19] (by kernel_rfl), hI, hl16⟩)
      clear h2 hI
      rintro k a w ⟨x77, x78, h2, ha, hI, hl79⟩
      rcases k with _ | k
      ·
       cases h2
      simp only [ref02_Of.l4] at h2
      refine CodT.of ?_ ha
      refine cQ ?_
      refine cQ ?_
      refine cR [0, 1] (by kernel_rfl) ?_
      refine oP (r := []) [0, 1] (S' := [(2, pb b1), (3, pb b5), (4, pb b9), (5, .string y11), (6, iv x14), (12, pb b54), (19, iv x77), (182, .bool (decide (x77 < 8)))]) (by kernel_rfl) ?_
      refine oD ?_
      refine qT ?_
      by_cases hb80 : (decide (x77 < 8)) = true
      ·
       rw [if_pos hb80] at h2
       refine CodT.yes' (b := decide (x77 < 8)) (by kernel_rfl) hb80 ?_
       refine CodT.skip ?_
       refine qT ?_
       refine cQ ?_
       refine CodT.block ?_
       refine CodT.drawI (n := 10) [9] (by kernel_rfl) (by kernel_rfl) hI ?_
       intro w hI
       refine GmT.p' 0 185 (iv x77) (by kernel_rfl) (by kernel_rfl) ?_
       refine GmT.p' 1 186 (iv x77) (by kernel_rfl) (by kernel_rfl) ?_
       refine GmT.p' 4 189 (iv x77) (by kernel_rfl) (by kernel_rfl) ?_
       obtain ⟨hg81, h2⟩ := guardS h2
       refine GmT.r (i := 2) 2 (by kernel_rfl) (by kernel_rfl) (Yl.indexArr (d := 187) (T := 53) (k := .i64) (j := x77) (g := b5) (o := 0) (by kernel_rfl) Go.Proofs.Try.underlying53 ty52 hg81.1 hg81.2) hI ?_
       refine GmT.r (i := 3) 2 (by kernel_rfl) (by kernel_rfl) (Yl.load (d := 188) (T := 52) (v := .int .u32 (gt x78 x77)) (by kernel_rfl) (ldB ty52 (l := cA (Value.int .u32) x78) (o := 0 + x77.toNat * 1) (v := .int .u32 (gt x78 x77)) (pick3 _ _ _ _) (arr_get _ _ hg81.1 (by have := And.intro hl79 hg81.2; omega)))) hI ?_
       obtain ⟨hg82, h2⟩ := guardS h2
       refine GmT.r (i := 5) 2 (by kernel_rfl) (by kernel_rfl) (Yl.indexArr (d := 190) (T := 53) (k := .i64) (j := x77) (g := b54) (o := 0) (by kernel_rfl) Go.Proofs.Try.underlying53 ty52 hg82.1 hg82.2) hI ?_
       refine GmT.r (i := 6) 2 (by kernel_rfl) (by kernel_rfl) (Yl.load (d := 191) (T := 52) (v := .int .u32 (gt x55 x77)) (by kernel_rfl) (ldB ty52 (l := cA (Value.int .u32) x55) (o := 0 + x77.toNat * 1) (v := .int .u32 (gt x55 x77)) (ent_refl _) (arr_get _ _ hg82.1 (by have := And.intro hl56 hg82.2; omega)))) hI ?_
       refine GmT.p' 7 192 (.int .u32 (wu32 ((gt x78 x77) + (gt x55 x77)))) (by kernel_rfl) (by kernel_rfl) ?_
       obtain ⟨hg83, h2⟩ := guardS h2
       refine GmT.r (i := 8) 2 (by kernel_rfl) (by kernel_rfl) (Yl.indexArr (d := 193) (T := 53) (k := .i64) (j := x77) (g := b5) (o := 0) (by kernel_rfl) Go.Proofs.Try.underlying53 ty52 hg83.1 hg83.2) hI ?_
       have hI := hI.mono (pick3 _ _ _ _)
       refine GmT.o (i := 9) (by kernel_rfl) (Does.storeArr (e := (Value.int .u32)) (xs := x78) (u := wu32 ((gt x78 x77) + (gt x55 x77))) (T := 52) (b := b5) (j := x77) (by kernel_rfl) ty52 hI (by kernel_rfl) (by kernel_rfl) hg83.1 (by have := And.intro hl79 hg83.2; omega) ?_)
       intro w hI
       refine ⟨fun h => absurd h (by decide), ?_⟩
       refine GmT.done (by kernel_rfl) ?_
       refine Qn.block_normal ?_
       refine qT ?_
       refine cR [0, 1, 2] (by kernel_rfl) ?_
       refine oP (r := []) [0, 1, 2] (S' := [(2, pb b1), (3, pb b5), (4, pb b9), (5, .string y11), (6, iv x14), (12, pb b54), (19, iv (wi64 (x77 + 1)))]) (by kernel_rfl) ?_
       refine oD ?_
       have hI := hI.mono (pick4 _ _ _ _ _)
       have hI := hI.mono (pick2 _ _ _)
       have hI := hI.mono (pick4 _ _ _ _ _)
       have hI := hI.mono (pick4 _ _ _ _ _)
       exact Qn.thenJ fun a ha => ⟨k, Nat.lt_succ_self k, wi64 (x77 + 1), st x78 x77 (wu32 ((gt x78 x77) + (gt x55 x77))), h2, ha.keep [2, 3, 4, 5, 6, 12, 19] (by kernel_rfl), hI, ((st_length _ _ _).trans hl79)⟩
      ·
       rw [if_neg hb80] at h2
       refine CodT.no' (b := decide (x77 < 8)) (by kernel_rfl) (by simpa using hb80) ?_
       refine CodT.exit ?_
       refine Qn.exit_then ?_
       refine Qn.exit_then ?_
       refine Qn.block ?_
       have hI := hI.drop
       have e := someS h2
       subst e
       exact Qn.thenJ fun a ha => ⟨x78, rfl, ha.keep [2, 3, 4, 5, 6] (by kernel_rfl), hI, hl79⟩
     ·
      rintro a w ⟨x75, rfl, ha, hI, hl76⟩
      try dsimp only at h1
      refine Qn.of ?_ ha
      refine Qn.block_normal ?_
      refine qT ?_
      refine cR [0, 1, 2] (by kernel_rfl) ?_
      refine oP (r := []) [0, 1, 2] (S' := [(2, pb b1), (3, pb b5), (4, pb b9), (5, .string y11), (6, iv (wi64 (x14 + 64)))]) (by kernel_rfl) ?_
      refine oD ?_
      exact Qn.thenJ fun a ha => ⟨k, Nat.lt_succ_self k, wi64 (x14 + 64), x75, h1, ha.keep [2, 3, 4, 5, 6] (by kernel_rfl), hI, hl76⟩
  ·
   rw [if_neg hb17] at h1
   refine CodT.no' (b := decide (x14 < (y11.size : Int))) (by kernel_rfl) (by simpa using hb17) ?_
   refine CodT.exit ?_
   refine Qn.exit_then ?_
   refine Qn.exit_then ?_
   refine Qn.block ?_
   have hI := hI.drop
   have e := someS h1
   subst e
   exact Qn.thenJ fun a ha => ⟨x15, rfl, ha.keep [2, 3] (by kernel_rfl), hI, hl16⟩
 ·
  rintro a w ⟨x12, rfl, ha, hI, hl13⟩
  try dsimp only at h0
  refine Qn.of ?_ ha
  refine qT ?_
  refine cQ ?_
  refine cR [0] (by kernel_rfl) ?_
  refine oC (Does.allocL (d := 20) (T := 29) (cA (Value.int .u8) (List.replicate 32 (0 : Int))) (by kernel_rfl) ty29 hI (by kernel_rfl) ?_)
  intro b84 w hI
  refine oD ?_
  refine qT ?_
  refine cQ ?_
  refine cQ ?_
  refine cR [0] (by kernel_rfl) ?_
  refine oP (r := []) [0] (S' := [(2, pb b1), (3, pb b5), (20, pb b84), (21, iv 0)]) (by kernel_rfl) ?_
  refine oD ?_
  refine qT ?_
  obtain ⟨r1, h1, h0⟩ := bindS h0
  refine CodT.meet1 (fun a w => ∃ (x85 : (List Int)), x85 = r1 ∧ Fr 216 [(2, pb b1), (20, pb b84)] a ∧ Inv w0 Z w (star (pt b84 (.cells (cA (Value.int .u8) x85).toArray 29 (0, 0))) (star (pt b1 (.cells (cA (Value.int .u8) (List.replicate 32 (0 : Int))).toArray 29 (0, 0))) A)) ∧ x85.length = 32) ?_ ?_
  ·
   refine CodT.block ?_
   refine (fun a ha => wp_loopN (fun k a w => ∃ (x87 : Int) (x88 : (List Int)), ref02_Of.l5 x12 k x87 x88 = some r1 ∧ Fr 216 [(2, pb b1), (3, pb b5), (20, pb b84), (21, iv x87)] a ∧ Inv w0 Z w (star (pt b84 (.cells (cA (Value.int .u8) x88).toArray 29 (0, 0))) (star (pt b5 (.cells (cA (Value.int .u32) x12).toArray 53 (0, 0))) (star (pt b1 (.cells (cA (Value.int .u8) (List.replicate 32 (0 : Int))).toArray 29 (0, 0))) A))) ∧ x88.length = 32) ?_ FU a w ⟨0, (List.replicate 32 (0 : Int)), h1, ha.keep [2, 3, 20, 21] (by kernel_rfl), hI, (by kernel_rfl)⟩)
   clear h1 hI
   rintro k a w ⟨x87, x88, h1, ha, hI, hl89⟩
   rcases k with _ | k
   ·
    cases h1
   simp only [ref02_Of.l5] at h1
   refine CodT.of ?_ ha
   refine cQ ?_
   refine cQ ?_
   refine cR [0, 1] (by kernel_rfl) ?_
   refine oP (r := []) [0, 1] (S' := [(2, pb b1), (3, pb b5), (20, pb b84), (21, iv x87), (195, .bool (decide (x87 < 32)))]) (by kernel_rfl) ?_
   refine oD ?_
   refine qT ?_
   by_cases hb90 : (decide (x87 < 32)) = true
   ·
    rw [if_pos hb90] at h1
    refine CodT.yes' (b := decide (x87 < 32)) (by kernel_rfl) hb90 ?_
    refine CodT.skip ?_
    refine qT ?_
    refine cQ ?_
    refine CodT.block ?_
    refine cQ ?_
    refine cR [0, 1, 2, 3, 4] (by kernel_rfl) ?_
    refine oP (r := [2, 3, 4]) [0, 1] (S' := [(2, pb b1), (3, pb b5), (20, pb b84), (21, iv x87), (199, iv (wi64 (x87.tdiv 4)))]) (by kernel_rfl) ?_
    obtain ⟨hg91, h1⟩ := guardS h1
    refine oC (Does.yi (Yl.indexArr (d := 200) (T := 53) (k := .i64) (j := wi64 (x87.tdiv 4)) (g := b5) (o := 0) (by kernel_rfl) Go.Proofs.Try.underlying53 ty52 hg91.1 hg91.2) hI ?_)
    refine oC (Does.yi (Yl.load (d := 201) (T := 52) (v := .int .u32 (gt x12 (wi64 (x87.tdiv 4)))) (by kernel_rfl) (ldB ty52 (l := cA (Value.int .u32) x12) (o := 0 + (wi64 (x87.tdiv 4)).toNat * 1) (v := .int .u32 (gt x12 (wi64 (x87.tdiv 4)))) (pick2 _ _ _) (arr_get _ _ hg91.1 (by have := And.intro hl13 hg91.2; omega)))) hI ?_)
    refine oP (r := []) [4] (S' := [(2, pb b1), (3, pb b5), (20, pb b84), (21, iv x87), (22, .int .u32 (gt x12 (wi64 (x87.tdiv 4))))]) (by kernel_rfl) ?_
    refine oD ?_
    refine qT ?_
    refine cQ ?_
    refine cQ ?_
    refine cR [0, 1, 2] (by kernel_rfl) ?_
    refine oP (r := []) [0, 1, 2] (S' := [(2, pb b1), (3, pb b5), (20, pb b84), (21, iv x87), (22, .int .u32 (gt x12 (wi64 (x87.tdiv 4)))), (23, iv (x87.tmod 4))]) (by kernel_rfl) ?_
    refine oD ?_
    refine qT ?_
    obtain ⟨r2, h2, h1⟩ := bindS h1
    refine CodT.meet1 (fun a w => ∃ (x92 : Int), x92 = r2 ∧ Fr 216 [(2, pb b1), (3, pb b5), (20, pb b84), (21, iv x87), (22, .int .u32 x92)] a ∧ Inv w0 Z w (star (pt b84 (.cells (cA (Value.int .u8) x88).toArray 29 (0, 0))) (star (pt b5 (.cells (cA (Value.int .u32) x12).toArray 53 (0, 0))) (star (pt b1 (.cells (cA (Value.int .u8) (List.replicate 32 (0 : Int))).toArray 29 (0, 0))) A)))) ?_ ?_
    ·
     refine CodT.block ?_
     refine (fun a ha => wp_loopN (fun k a w => ∃ (x93 : Int) (x94 : Int), ref02_Of.l6 k x93 x94 = some r2 ∧ Fr 216 [(2, pb b1), (3, pb b5), (20, pb b84), (21, iv x87), (22, .int .u32 x93), (23, iv x94)] a ∧ Inv w0 Z w (star (pt b84 (.cells (cA (Value.int .u8) x88).toArray 29 (0, 0))) (star (pt b5 (.cells (cA (Value.int .u32) x12).toArray 53 (0, 0))) (star (pt b1 (.cells (cA (Value.int .u8) (List.replicate 32 (0 : Int))).toArray 29 (0, 0))) A)))) ?_ FU a w ⟨gt x12 (wi64 (x87.tdiv 4)), x87.tmod 4, h2, ha.keep [2, 3, 20, 21, 22, 23] (by kernel_rfl), hI⟩)
     clear h2 hI
     rintro k a w ⟨x93, x94, h2, ha, hI⟩
     rcases k with _ | k
     ·
      cases h2
     simp only [ref02_Of.l6] at h2
     refine CodT.of ?_ ha
     refine cQ ?_
     refine cQ ?_
     refine cR [0, 1] (by kernel_rfl) ?_
     refine oP (r := []) [0, 1] (S' := [(2, pb b1), (3, pb b5), (20, pb b84), (21, iv x87), (22, .int .u32 x93), (23, iv x94), (205, .bool (decide (x94 < 3)))]) (by kernel_rfl) ?_
     refine oD ?_
     refine qT ?_
     by_cases hb95 : (decide (x94 < 3)) = true
     ·
      rw [if_pos hb95] at h2
      refine CodT.yes' (b := decide (x94 < 3)) (by kernel_rfl) hb95 ?_
      refine CodT.skip ?_
      refine qT ?_
      refine cQ ?_
      refine CodT.block ?_
      refine cR [0, 1, 2] (by kernel_rfl) ?_
      refine oP (r := []) [0, 1, 2] (S' := [(2, pb b1), (3, pb b5), (20, pb b84), (21, iv x87), (22, .int .u32 (wu32 (x93.tdiv 256))), (23, iv x94)]) (by kernel_rfl) ?_
      refine oD ?_
      refine Qn.block_normal ?_
      refine qT ?_
      refine cR [0, 1, 2] (by kernel_rfl) ?_
      refine oP (r := []) [0, 1, 2] (S' := [(2, pb b1), (3, pb b5), (20, pb b84), (21, iv x87), (22, .int .u32 (wu32 (x93.tdiv 256))), (23, iv (wi64 (x94 + 1)))]) (by kernel_rfl) ?_
      refine oD ?_
      exact Qn.thenJ fun a ha => ⟨k, Nat.lt_succ_self k, wu32 (x93.tdiv 256), wi64 (x94 + 1), h2, ha.keep [2, 3, 20, 21, 22, 23] (by kernel_rfl), hI⟩
     ·
      rw [if_neg hb95] at h2
      refine CodT.no' (b := decide (x94 < 3)) (by kernel_rfl) (by simpa using hb95) ?_
      refine CodT.exit ?_
      refine Qn.exit_then ?_
      refine Qn.exit_then ?_
      refine Qn.block ?_
      have e := someS h2
      subst e
      exact Qn.thenJ fun a ha => ⟨x93, rfl, ha.keep [2, 3, 20, 21, 22] (by kernel_rfl), hI⟩
    ·
     rintro a w ⟨x92, rfl, ha, hI⟩
     try dsimp only at h1
     refine Qn.of ?_ ha
     refine qT ?_
     refine cR [0, 1, 2, 3, 4, 5] (by kernel_rfl) ?_
     refine oP (r := [4, 5]) [0, 1, 2, 3] (S' := [(2, pb b1), (3, pb b5), (20, pb b84), (21, iv x87), (210, iv x87), (213, .int .u8 (wu8 (x92.tmod 256)))]) (by kernel_rfl) ?_
     obtain ⟨hg96, h1⟩ := guardS h1
     refine oC (Does.yi (Yl.indexArr (d := 214) (T := 29) (k := .i64) (j := x87) (g := b84) (o := 0) (by kernel_rfl) Go.Proofs.Try.underlying29 ty5 hg96.1 hg96.2) hI ?_)
     refine oC (Does.storeArr (e := (Value.int .u8)) (xs := x88) (u := wu8 (x92.tmod 256)) (T := 5) (b := b84) (j := x87) (by kernel_rfl) ty5 hI (by kernel_rfl) (by kernel_rfl) hg96.1 (by have := And.intro hl89 hg96.2; omega) ?_)
     intro w hI
     refine oD ?_
     refine Qn.block_normal ?_
     refine qT ?_
     refine cR [0, 1, 2] (by kernel_rfl) ?_
     refine oP (r := []) [0, 1, 2] (S' := [(2, pb b1), (3, pb b5), (20, pb b84), (21, iv (wi64 (x87 + 1)))]) (by kernel_rfl) ?_
     refine oD ?_
     exact Qn.thenJ fun a ha => ⟨k, Nat.lt_succ_self k, wi64 (x87 + 1), st x88 x87 (wu8 (x92.tmod 256)), h1, ha.keep [2, 3, 20, 21] (by kernel_rfl), hI, ((st_length _ _ _).trans hl89)⟩
   ·
    rw [if_neg hb90] at h1
    refine CodT.no' (b := decide (x87 < 32)) (by kernel_rfl) (by simpa using hb90) ?_
    refine CodT.exit ?_
    refine Qn.exit_then ?_
    refine Qn.exit_then ?_
    refine Qn.block ?_
    have hI := hI.mono (pick2 _ _ _)
    have hI := hI.drop
    have e := someS h1
    subst e
    exact Qn.thenJ fun a ha => ⟨x88, rfl, ha.keep [2, 20] (by kernel_rfl), hI, hl89⟩
  ·
   rintro a w ⟨x85, rfl, ha, hI, hl86⟩
   try dsimp only at h0
   refine Qn.of ?_ ha
   refine qT ?_
   refine cQ ?_
   refine cR [0, 1] (by kernel_rfl) ?_
   refine oC (Does.yi (Yl.load (d := 215) (T := 29) (v := .agg (cA (Value.int .u8) x85).toArray) (by kernel_rfl) (ldBN ty29 (l := cA (Value.int .u8) x85) (o := 0) (cs := cA (Value.int .u8) x85) (ent_refl _) ((cA_length _ _).trans hl86) (whole _ _ ((cA_length _ _).trans hl86)))) hI ?_)
   have hI := hI.mono (pick2 _ _ _)
   refine oC (Does.storeAll (T := 29) (b := b1) (n := 32) (xs := (List.replicate 32 (0 : Int))) (ys := x85) (by kernel_rfl) ty29 hI (fun _ => rfl) (by kernel_rfl) hl86 ?_)
   intro w hI
   refine oD ?_
   refine qT ?_
   refine CodT.ret ?_
   have hL97 := (ldBN ty29 (l := cA (Value.int .u8) x85) (o := 0) (cs := cA (Value.int .u8) x85) (ent_refl _) ((cA_length _ _).trans hl86) (whole _ _ ((cA_length _ _).trans hl86))) w hI
   have hI := hI.drop
   have hI := hI.drop
   have e := someS h0
   subst e
   refine qK [2] (S' := [(2, pb b1)]) (by kernel_rfl) ?_
   exact post_ret (v := .agg (cA (Value.int .u8) x85).toArray) (fun a ha => RunRes.run (vs := [.agg (cA (Value.int .u8) x85).toArray]) (.cell (t := 2) (T := 29) (ad := ⟨b1, 0, none⟩) (by kernel_rfl) hL97 .nil) ha (by kernel_rfl)) ⟨rfl, hl86, hI⟩
/-- cenotaph/cenotaphref06.Start -/
theorem c37 (w0 w : World) (Z : Hp) (A : HP) (hI : Inv w0 Z w A)  (r : (List Int)) (h0 : ref06_Start = some r) :
  Calls prog 37 #[] w (fun e w' => e = .returned (.agg (cA (Value.int .u8) r).toArray) ∧ r.length = 32 ∧ Inv w0 Z w' A) := by
 have e4 := calls_intro (R := (fun e w' => e = .returned (.agg (cA (Value.int .u8) r).toArray) ∧ r.length = 32 ∧ Inv w0 Z w' A)) (w := w) (args := []) (fn := Go.Proofs.Try.f37) 2 Go.Proofs.Try.func37 (by rfl) Go.Proofs.Try.ntmps37 (by kernel_rfl)
 refine e4 ?_
 clear e4
 unfold ref06_Start at h0
 refine cQ ?_
 refine cR [0] (by kernel_rfl) ?_
 refine oC (Does.allocL (d := 0) (T := 29) (cA (Value.int .u8) (List.replicate 32 (0 : Int))) (by kernel_rfl) ty29 hI (by kernel_rfl) ?_)
 intro b1 w hI
 refine oD ?_
 refine qT ?_
 refine cQ ?_
 refine cR [0, 1] (by kernel_rfl) ?_
 obtain ⟨y3, hc2, h0⟩ := bindS h0
 try dsimp only at h0
 refine oC (Does.call (d := some 1) (n := 53) (vs := [.string (⟨#[99, 101, 110, 111, 116, 97, 112, 104]⟩ : ByteArray)]) (by kernel_rfl) en53 (c53 w0 w _ _ hI (⟨#[99, 101, 110, 111, 116, 97, 112, 104]⟩ : ByteArray) _ hc2) ?_)
 rintro e w ⟨rfl, hl4, hI⟩
 refine ⟨_, rfl, ?_⟩
 refine oC (Does.storeAll (T := 29) (b := b1) (n := 32) (xs := (List.replicate 32 (0 : Int))) (ys := y3) (by kernel_rfl) ty29 hI (fun _ => rfl) (by kernel_rfl) hl4 ?_)
 intro w hI
 refine oD ?_
 refine qT ?_
 refine CodT.ret ?_
 have hL5 := (ldBN ty29 (l := cA (Value.int .u8) y3) (o := 0) (cs := cA (Value.int .u8) y3) (ent_refl _) ((cA_length _ _).trans hl4) (whole _ _ ((cA_length _ _).trans hl4))) w hI
 have hI := hI.drop
 have e := someS h0
 subst e
 refine qK [0] (S' := [(0, pb b1)]) (by kernel_rfl) ?_
 exact post_ret (v := .agg (cA (Value.int .u8) y3).toArray) (fun a ha => RunRes.run (vs := [.agg (cA (Value.int .u8) y3).toArray]) (.cell (t := 0) (T := 29) (ad := ⟨b1, 0, none⟩) (by kernel_rfl) hL5 .nil) ha (by kernel_rfl)) ⟨rfl, hl4, hI⟩
/-- cenotaph/cenotaphref05.tells -/
theorem c56 (w0 w : World) (Z : Hp) (A : HP) (hI : Inv w0 Z w A) (a0 : Int) (r : (List Bool)) (h0 : ref05_tells a0 = some r) :
  Calls prog 56 #[iv a0] w (fun e w' => e = .returned (.agg (cA Value.bool r).toArray) ∧ r.length = 5 ∧ Inv w0 Z w' A) := by
 have e4 := calls_intro (R := (fun e w' => e = .returned (.agg (cA Value.bool r).toArray) ∧ r.length = 5 ∧ Inv w0 Z w' A)) (w := w) (args := [iv a0]) (fn := Go.Proofs.Try.f56) 25 Go.Proofs.Try.func56 (by rfl) Go.Proofs.Try.ntmps56 (by kernel_rfl)
 refine e4 ?_
 clear e4
 unfold ref05_tells at h0
 refine cQ ?_
 refine cR [0] (by kernel_rfl) ?_
 refine oC (Does.allocL (d := 2) (T := 102) (cA Value.bool (List.replicate 5 (false : Bool))) (by kernel_rfl) ty102 hI (by kernel_rfl) ?_)
 intro b1 w hI
 refine oD ?_
 refine qT ?_
 refine cQ ?_
 refine cQ ?_
 refine cR [0] (by kernel_rfl) ?_
 refine oP (r := []) [0] (S' := [(2, pb b1), (3, iv a0)]) (by kernel_rfl) ?_
 refine oD ?_
 refine qT ?_
 refine CodT.block ?_
 obtain ⟨r1, h1, h0⟩ := bindS h0
 refine CodT.meet (fun a w => ∃ (x2 : Bool), x2 = r1 ∧ Fr 25 [(2, pb b1), (3, iv a0), (4, .bool x2)] a ∧ Inv w0 Z w (star (pt b1 (.cells (cA Value.bool (List.replicate 5 (false : Bool))).toArray 102 (0, 0))) A)) ?_ ?_
 ·
  refine cQ ?_
  refine cR [0, 1] (by kernel_rfl) ?_
  refine oP (r := []) [0, 1] (S' := [(2, pb b1), (3, iv a0), (4, .bool (a0 == 0))]) (by kernel_rfl) ?_
  refine oD ?_
  refine qT ?_
  by_cases hb3 : (a0 == 0) = true
  ·
   rw [if_pos hb3] at h1
   refine CodT.yes' (b := a0 == 0) (by kernel_rfl) hb3 ?_
   refine CodT.skip ?_
   have e := someS h1
   subst e
   exact Qn.thenJ fun a ha => ⟨a0 == 0, rfl, ha.keep [2, 3, 4] (by kernel_rfl), hI⟩
  ·
   rw [if_neg hb3] at h1
   refine CodT.no' (b := a0 == 0) (by kernel_rfl) (by simpa using hb3) ?_
   refine cQ ?_
   refine cR [0, 1] (by kernel_rfl) ?_
   refine oP (r := []) [0, 1] (S' := [(2, pb b1), (3, iv a0), (4, .bool (a0 == 4))]) (by kernel_rfl) ?_
   refine oD ?_
   refine qT ?_
   by_cases hb4 : (a0 == 4) = true
   ·
    rw [if_pos hb4] at h1
    refine CodT.yes' (b := a0 == 4) (by kernel_rfl) hb4 ?_
    refine CodT.skip ?_
    have e := someS h1
    subst e
    exact Qn.thenJ fun a ha => ⟨a0 == 4, rfl, ha.keep [2, 3, 4] (by kernel_rfl), hI⟩
   ·
    rw [if_neg hb4] at h1
    refine CodT.no' (b := a0 == 4) (by kernel_rfl) (by simpa using hb4) ?_
    refine cR [0, 1] (by kernel_rfl) ?_
    refine oP (r := []) [0, 1] (S' := [(2, pb b1), (3, iv a0), (4, .bool (a0 == 5))]) (by kernel_rfl) ?_
    refine oD ?_
    have e := someS h1
    subst e
    exact Qn.thenJ fun a ha => ⟨a0 == 5, rfl, ha.keep [2, 3, 4] (by kernel_rfl), hI⟩
 ·
  rintro a w ⟨x2, rfl, ha, hI⟩
  try dsimp only at h0
  refine CodT.of ?_ ha
  by_cases hb5 : x2 = true
  ·
   rw [if_pos hb5] at h0
   refine CodT.yes' (b := x2) (by kernel_rfl) hb5 ?_
   refine cQ ?_
   refine cR [0, 1] (by kernel_rfl) ?_
   refine oP (r := [1]) [0] (S' := [(2, pb b1), (8, .agg (cA Value.bool ([true, true, false, false, false] : List Bool)).toArray)]) (by kernel_rfl) ?_
   refine oC (Does.storeAll (T := 102) (b := b1) (n := 5) (xs := (List.replicate 5 (false : Bool))) (ys := ([true, true, false, false, false] : List Bool)) (by kernel_rfl) ty102 hI (fun _ => rfl) (by kernel_rfl) (by kernel_rfl) ?_)
   intro w hI
   refine oD ?_
   refine qT ?_
   refine CodT.ret ?_
   refine Qn.block_ret ?_
   refine Qn.ret_then ?_
   have hL6 := (ldBN ty102 (l := cA Value.bool ([true, true, false, false, false] : List Bool)) (o := 0) (cs := cA Value.bool ([true, true, false, false, false] : List Bool)) (ent_refl _) ((cA_length _ _).trans (by kernel_rfl)) (whole _ _ ((cA_length _ _).trans (by kernel_rfl)))) w hI
   have hI := hI.drop
   have e := someS h0
   subst e
   refine qK [2] (S' := [(2, pb b1)]) (by kernel_rfl) ?_
   exact post_ret (v := .agg (cA Value.bool ([true, true, false, false, false] : List Bool)).toArray) (fun a ha => RunRes.run (vs := [.agg (cA Value.bool ([true, true, false, false, false] : List Bool)).toArray]) (.cell (t := 2) (T := 102) (ad := ⟨b1, 0, none⟩) (by kernel_rfl) hL6 .nil) ha (by kernel_rfl)) ⟨rfl, (by kernel_rfl), hI⟩
  ·
   rw [if_neg hb5] at h0
   refine CodT.no' (b := x2) (by kernel_rfl) (by simpa using hb5) ?_
   refine cQ ?_
   refine cR [0, 1] (by kernel_rfl) ?_
   refine oP (r := []) [0, 1] (S' := [(2, pb b1), (3, iv a0), (9, .bool (a0 == 1))]) (by kernel_rfl) ?_
   refine oD ?_
   refine qT ?_
   by_cases hb7 : (a0 == 1) = true
   ·
    rw [if_pos hb7] at h0
    refine CodT.yes' (b := a0 == 1) (by kernel_rfl) hb7 ?_
    refine cQ ?_
    refine cR [0, 1] (by kernel_rfl) ?_
    refine oP (r := [1]) [0] (S' := [(2, pb b1), (11, .agg (cA Value.bool ([true, false, false, true, false] : List Bool)).toArray)]) (by kernel_rfl) ?_
    refine oC (Does.storeAll (T := 102) (b := b1) (n := 5) (xs := (List.replicate 5 (false : Bool))) (ys := ([true, false, false, true, false] : List Bool)) (by kernel_rfl) ty102 hI (fun _ => rfl) (by kernel_rfl) (by kernel_rfl) ?_)
    intro w hI
    refine oD ?_
    refine qT ?_
    refine CodT.ret ?_
    refine Qn.block_ret ?_
    refine Qn.ret_then ?_
    have hL8 := (ldBN ty102 (l := cA Value.bool ([true, false, false, true, false] : List Bool)) (o := 0) (cs := cA Value.bool ([true, false, false, true, false] : List Bool)) (ent_refl _) ((cA_length _ _).trans (by kernel_rfl)) (whole _ _ ((cA_length _ _).trans (by kernel_rfl)))) w hI
    have hI := hI.drop
    have e := someS h0
    subst e
    refine qK [2] (S' := [(2, pb b1)]) (by kernel_rfl) ?_
    exact post_ret (v := .agg (cA Value.bool ([true, false, false, true, false] : List Bool)).toArray) (fun a ha => RunRes.run (vs := [.agg (cA Value.bool ([true, false, false, true, false] : List Bool)).toArray]) (.cell (t := 2) (T := 102) (ad := ⟨b1, 0, none⟩) (by kernel_rfl) hL8 .nil) ha (by kernel_rfl)) ⟨rfl, (by kernel_rfl), hI⟩
   ·
    rw [if_neg hb7] at h0
    refine CodT.no' (b := a0 == 1) (by kernel_rfl) (by simpa using hb7) ?_
    refine cQ ?_
    refine cR [0, 1] (by kernel_rfl) ?_
    refine oP (r := []) [0, 1] (S' := [(2, pb b1), (3, iv a0), (12, .bool (a0 == 2))]) (by kernel_rfl) ?_
    refine oD ?_
    refine qT ?_
    by_cases hb9 : (a0 == 2) = true
    ·
     rw [if_pos hb9] at h0
     refine CodT.yes' (b := a0 == 2) (by kernel_rfl) hb9 ?_
     refine cQ ?_
     refine cR [0, 1] (by kernel_rfl) ?_
     refine oP (r := [1]) [0] (S' := [(2, pb b1), (14, .agg (cA Value.bool ([true, false, true, true, true] : List Bool)).toArray)]) (by kernel_rfl) ?_
     refine oC (Does.storeAll (T := 102) (b := b1) (n := 5) (xs := (List.replicate 5 (false : Bool))) (ys := ([true, false, true, true, true] : List Bool)) (by kernel_rfl) ty102 hI (fun _ => rfl) (by kernel_rfl) (by kernel_rfl) ?_)
     intro w hI
     refine oD ?_
     refine qT ?_
     refine CodT.ret ?_
     refine Qn.block_ret ?_
     refine Qn.ret_then ?_
     have hL10 := (ldBN ty102 (l := cA Value.bool ([true, false, true, true, true] : List Bool)) (o := 0) (cs := cA Value.bool ([true, false, true, true, true] : List Bool)) (ent_refl _) ((cA_length _ _).trans (by kernel_rfl)) (whole _ _ ((cA_length _ _).trans (by kernel_rfl)))) w hI
     have hI := hI.drop
     have e := someS h0
     subst e
     refine qK [2] (S' := [(2, pb b1)]) (by kernel_rfl) ?_
     exact post_ret (v := .agg (cA Value.bool ([true, false, true, true, true] : List Bool)).toArray) (fun a ha => RunRes.run (vs := [.agg (cA Value.bool ([true, false, true, true, true] : List Bool)).toArray]) (.cell (t := 2) (T := 102) (ad := ⟨b1, 0, none⟩) (by kernel_rfl) hL10 .nil) ha (by kernel_rfl)) ⟨rfl, (by kernel_rfl), hI⟩
    ·
     rw [if_neg hb9] at h0
     refine CodT.no' (b := a0 == 2) (by kernel_rfl) (by simpa using hb9) ?_
     refine cQ ?_
     refine cR [0, 1] (by kernel_rfl) ?_
     refine oP (r := []) [0, 1] (S' := [(2, pb b1), (3, iv a0), (15, .bool (a0 == 3))]) (by kernel_rfl) ?_
     refine oD ?_
     refine qT ?_
     by_cases hb11 : (a0 == 3) = true
     ·
      rw [if_pos hb11] at h0
      refine CodT.yes' (b := a0 == 3) (by kernel_rfl) hb11 ?_
      refine cQ ?_
      refine cR [0, 1] (by kernel_rfl) ?_
      refine oP (r := [1]) [0] (S' := [(2, pb b1), (17, .agg (cA Value.bool ([true, false, true, false, false] : List Bool)).toArray)]) (by kernel_rfl) ?_
      refine oC (Does.storeAll (T := 102) (b := b1) (n := 5) (xs := (List.replicate 5 (false : Bool))) (ys := ([true, false, true, false, false] : List Bool)) (by kernel_rfl) ty102 hI (fun _ => rfl) (by kernel_rfl) (by kernel_rfl) ?_)
      intro w hI
      refine oD ?_
      refine qT ?_
      refine CodT.ret ?_
      refine Qn.block_ret ?_
      refine Qn.ret_then ?_
      have hL12 := (ldBN ty102 (l := cA Value.bool ([true, false, true, false, false] : List Bool)) (o := 0) (cs := cA Value.bool ([true, false, true, false, false] : List Bool)) (ent_refl _) ((cA_length _ _).trans (by kernel_rfl)) (whole _ _ ((cA_length _ _).trans (by kernel_rfl)))) w hI
      have hI := hI.drop
      have e := someS h0
      subst e
      refine qK [2] (S' := [(2, pb b1)]) (by kernel_rfl) ?_
      exact post_ret (v := .agg (cA Value.bool ([true, false, true, false, false] : List Bool)).toArray) (fun a ha => RunRes.run (vs := [.agg (cA Value.bool ([true, false, true, false, false] : List Bool)).toArray]) (.cell (t := 2) (T := 102) (ad := ⟨b1, 0, none⟩) (by kernel_rfl) hL12 .nil) ha (by kernel_rfl)) ⟨rfl, (by kernel_rfl), hI⟩
     ·
      rw [if_neg hb11] at h0
      refine CodT.no' (b := a0 == 3) (by kernel_rfl) (by simpa using hb11) ?_
      refine cQ ?_
      refine cR [0, 1] (by kernel_rfl) ?_
      refine oP (r := []) [0, 1] (S' := [(2, pb b1), (3, iv a0), (18, .bool (a0 == 6))]) (by kernel_rfl) ?_
      refine oD ?_
      refine qT ?_
      by_cases hb13 : (a0 == 6) = true
      ·
       rw [if_pos hb13] at h0
       refine CodT.yes' (b := a0 == 6) (by kernel_rfl) hb13 ?_
       refine cQ ?_
       refine cR [0, 1] (by kernel_rfl) ?_
       refine oP (r := [1]) [0] (S' := [(2, pb b1), (20, .agg (cA Value.bool ([true, false, false, false, false] : List Bool)).toArray)]) (by kernel_rfl) ?_
       refine oC (Does.storeAll (T := 102) (b := b1) (n := 5) (xs := (List.replicate 5 (false : Bool))) (ys := ([true, false, false, false, false] : List Bool)) (by kernel_rfl) ty102 hI (fun _ => rfl) (by kernel_rfl) (by kernel_rfl) ?_)
       intro w hI
       refine oD ?_
       refine qT ?_
       refine CodT.ret ?_
       refine Qn.block_ret ?_
       refine Qn.ret_then ?_
       have hL14 := (ldBN ty102 (l := cA Value.bool ([true, false, false, false, false] : List Bool)) (o := 0) (cs := cA Value.bool ([true, false, false, false, false] : List Bool)) (ent_refl _) ((cA_length _ _).trans (by kernel_rfl)) (whole _ _ ((cA_length _ _).trans (by kernel_rfl)))) w hI
       have hI := hI.drop
       have e := someS h0
       subst e
       refine qK [2] (S' := [(2, pb b1)]) (by kernel_rfl) ?_
       exact post_ret (v := .agg (cA Value.bool ([true, false, false, false, false] : List Bool)).toArray) (fun a ha => RunRes.run (vs := [.agg (cA Value.bool ([true, false, false, false, false] : List Bool)).toArray]) (.cell (t := 2) (T := 102) (ad := ⟨b1, 0, none⟩) (by kernel_rfl) hL14 .nil) ha (by kernel_rfl)) ⟨rfl, (by kernel_rfl), hI⟩
      ·
       rw [if_neg hb13] at h0
       refine CodT.no' (b := a0 == 6) (by kernel_rfl) (by simpa using hb13) ?_
       refine cQ ?_
       refine cR [0, 1] (by kernel_rfl) ?_
       refine oP (r := []) [0, 1] (S' := [(2, pb b1), (21, .bool (a0 == 7))]) (by kernel_rfl) ?_
       refine oD ?_
       refine qT ?_
       by_cases hb15 : (a0 == 7) = true
       ·
        rw [if_pos hb15] at h0
        refine CodT.yes' (b := a0 == 7) (by kernel_rfl) hb15 ?_
        refine cQ ?_
        refine cR [0, 1] (by kernel_rfl) ?_
        refine oP (r := [1]) [0] (S' := [(2, pb b1), (23, .agg (cA Value.bool ([false, false, true, false, false] : List Bool)).toArray)]) (by kernel_rfl) ?_
        refine oC (Does.storeAll (T := 102) (b := b1) (n := 5) (xs := (List.replicate 5 (false : Bool))) (ys := ([false, false, true, false, false] : List Bool)) (by kernel_rfl) ty102 hI (fun _ => rfl) (by kernel_rfl) (by kernel_rfl) ?_)
        intro w hI
        refine oD ?_
        refine qT ?_
        refine CodT.ret ?_
        refine Qn.block_ret ?_
        refine Qn.ret_then ?_
        have hL16 := (ldBN ty102 (l := cA Value.bool ([false, false, true, false, false] : List Bool)) (o := 0) (cs := cA Value.bool ([false, false, true, false, false] : List Bool)) (ent_refl _) ((cA_length _ _).trans (by kernel_rfl)) (whole _ _ ((cA_length _ _).trans (by kernel_rfl)))) w hI
        have hI := hI.drop
        have e := someS h0
        subst e
        refine qK [2] (S' := [(2, pb b1)]) (by kernel_rfl) ?_
        exact post_ret (v := .agg (cA Value.bool ([false, false, true, false, false] : List Bool)).toArray) (fun a ha => RunRes.run (vs := [.agg (cA Value.bool ([false, false, true, false, false] : List Bool)).toArray]) (.cell (t := 2) (T := 102) (ad := ⟨b1, 0, none⟩) (by kernel_rfl) hL16 .nil) ha (by kernel_rfl)) ⟨rfl, (by kernel_rfl), hI⟩
       ·
        rw [if_neg hb15] at h0
        refine CodT.no' (b := a0 == 7) (by kernel_rfl) (by simpa using hb15) ?_
        refine CodT.skip ?_
        refine Qn.block_normal ?_
        refine qT ?_
        refine cQ ?_
        refine cR [0, 1] (by kernel_rfl) ?_
        refine oP (r := [1]) [0] (S' := [(2, pb b1), (24, .agg (cA Value.bool ([false, false, false, false, false] : List Bool)).toArray)]) (by kernel_rfl) ?_
        refine oC (Does.storeAll (T := 102) (b := b1) (n := 5) (xs := (List.replicate 5 (false : Bool))) (ys := ([false, false, false, false, false] : List Bool)) (by kernel_rfl) ty102 hI (fun _ => rfl) (by kernel_rfl) (by kernel_rfl) ?_)
        intro w hI
        refine oD ?_
        refine qT ?_
        refine CodT.ret ?_
        have hL17 := (ldBN ty102 (l := cA Value.bool ([false, false, false, false, false] : List Bool)) (o := 0) (cs := cA Value.bool ([false, false, false, false, false] : List Bool)) (ent_refl _) ((cA_length _ _).trans (by kernel_rfl)) (whole _ _ ((cA_length _ _).trans (by kernel_rfl)))) w hI
        have hI := hI.drop
        have e := someS h0
        subst e
        refine qK [2] (S' := [(2, pb b1)]) (by kernel_rfl) ?_
        exact post_ret (v := .agg (cA Value.bool ([false, false, false, false, false] : List Bool)).toArray) (fun a ha => RunRes.run (vs := [.agg (cA Value.bool ([false, false, false, false, false] : List Bool)).toArray]) (.cell (t := 2) (T := 102) (ad := ⟨b1, 0, none⟩) (by kernel_rfl) hL17 .nil) ha (by kernel_rfl)) ⟨rfl, (by kernel_rfl), hI⟩
end Go.Cen
