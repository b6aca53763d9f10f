/- That the machine computes these: walks, printed by a program of ours. -/
import Derived.Test.YthdoklobbcedcabPx
import Derived.Test.YthdoklobbcedcabWx1
set_option linter.unusedVariables false
set_option linter.unusedSimpArgs false
namespace Go.Cen
set_option maxRecDepth 100000 in
set_option maxHeartbeats 4000000 in
/-- cenotaph/cenotaphlaw06.works -/
theorem c25 (w0 w : World) (Z : Hp) (A : HP) (hI : Inv w0 Z w A)  (r : Bool) (h0 : law06_works = some r) :
    Calls prog 25 #[] w (fun e w' => e = .returned (.bool r) ∧ Inv w0 Z w' A) := by
  have e4 := calls_intro (R := (fun e w' => e = .returned (.bool r) ∧ Inv w0 Z w' A)) (w := w) (args := []) (fn := Go.Proofs.Try.f25) 82 Go.Proofs.Try.func25 (by rfl) Go.Proofs.Try.ntmps25 (by kernel_rfl)
  refine e4 ?_
  clear e4
  unfold law06_works at h0
  refine CodT.seq ?_
  refine CodT.regionL [0] (by kernel_rfl) ?_
  refine OpsT.pures (r := []) [0] [] (S' := []) (by kernel_rfl) ?_
  refine OpsT.done ?_
  refine Qn.then ?_
  refine CodT.seq ?_
  refine CodT.regionL [0, 1, 2] (by kernel_rfl) ?_
  refine OpsT.pures (r := [1, 2]) [0] [10] (S' := [(10, .agg (c_ApiEvent (ApiEvent.mk 7 0 (⟨#[]⟩ : ByteArray) 1 0 (List.replicate 32 (0 : Int)))).toArray)]) (by kernel_rfl) ?_
  refine OpsT.cons (Does.allocL (d := 1) (T := 65) (c_ApiEvent (ApiEvent.mk 0 0 (⟨#[]⟩ : ByteArray) 0 0 (List.replicate 32 (0 : Int)))) (by kernel_rfl) ty65 hI (by kernel_rfl) ?_)
  intro b1 w hI
  refine OpsT.cons (Does.storeLit (T := 65) (b := b1) (o := 0) (v := .agg (c_ApiEvent (ApiEvent.mk 7 0 (⟨#[]⟩ : ByteArray) 1 0 (List.replicate 32 (0 : Int)))).toArray) (l := c_ApiEvent (ApiEvent.mk 0 0 (⟨#[]⟩ : ByteArray) 0 0 (List.replicate 32 (0 : Int)))) (vs := c_ApiEvent (ApiEvent.mk 7 0 (⟨#[]⟩ : ByteArray) 1 0 (List.replicate 32 (0 : Int)))) (L' := c_ApiEvent (ApiEvent.mk 7 0 (⟨#[]⟩ : ByteArray) 1 0 (List.replicate 32 (0 : Int)))) (by kernel_rfl) ty65 hI (by kernel_rfl) (len_ApiEvent _ (by kernel_rfl)) (by rw [(len_ApiEvent _ (by kernel_rfl))]; kernel_rfl) (ones_app _ _ (by kernel_rfl) (ones_cA _)) (lset_all _ _ (Eq.trans (len_ApiEvent _ (by kernel_rfl)) (Eq.symm (len_ApiEvent _ (by kernel_rfl))))) ?_)
  intro w hI
  refine OpsT.done ?_
  refine Qn.then ?_
  obtain ⟨r1, h1, h0⟩ := bindS h0
  refine CodT.meet (fun a w => ∃ (x3 : (List Int)) (x5 : Bool) (b2 : Nat), (x3, x5) = r1 ∧ Fr 82 [(1, .pointer (some ⟨b1, 0, none⟩)), (2, .pointer (some ⟨b2, 0, none⟩)), (3, .bool x5)] a ∧ Inv w0 Z w (star (pt b2 (.cells (cA (Value.int .u8) x3).toArray 55 (0, 0))) (star (pt b1 (.cells (c_ApiEvent (ApiEvent.mk 7 0 (⟨#[]⟩ : ByteArray) 1 0 (List.replicate 32 (0 : Int)))).toArray 65 (0, 0))) A)) ∧ x3.length = 32) ?_ ?_
  ·
    refine CodT.drawI (n := 9) [7] (by kernel_rfl) (by kernel_rfl) hI ?_
    intro w hI
    refine GmT.r (i := 1) 2 (by kernel_rfl) (by kernel_rfl) (Yl.load (d := 13) (T := 65) (v := .agg (c_ApiEvent (ApiEvent.mk 7 0 (⟨#[]⟩ : ByteArray) 1 0 (List.replicate 32 (0 : Int)))).toArray) (by kernel_rfl) (ldBN ty65 (l := c_ApiEvent (ApiEvent.mk 7 0 (⟨#[]⟩ : ByteArray) 1 0 (List.replicate 32 (0 : Int)))) (o := 0) (cs := c_ApiEvent (ApiEvent.mk 7 0 (⟨#[]⟩ : ByteArray) 1 0 (List.replicate 32 (0 : Int)))) (ent_refl _) (len_ApiEvent _ (by kernel_rfl)) (whole _ _ (len_ApiEvent _ (by kernel_rfl))))) hI ?_
    refine GmT.several [0, 6] (by kernel_rfl) rfl ?_
    intro i hi; simp only [List.mem_cons, List.not_mem_nil, or_false] at hi; rcases hi with rfl | rfl
    ·
      obtain ⟨y7, hc6, h1⟩ := bindS h1
      try dsimp only at h1
      rw [lst_set]
      refine (Does.call (d := some 12) (n := 67) (vs := []) (by kernel_rfl) en67 (c67 w0 w _ _ hI _ hc6) ?_)
      rintro e w ⟨rfl, hl8, hI⟩
      refine ⟨_, rfl, ?_⟩
      refine ⟨fun _ _ => hI, ?_⟩
      refine GmT.several [2, 6] (by kernel_rfl) rfl ?_
      intro i hi; simp only [List.mem_cons, List.not_mem_nil, or_false] at hi; rcases hi with rfl | rfl
      ·
        obtain ⟨⟨y10, y12⟩, hc9, h1⟩ := bindS h1
        try dsimp only at h1
        rw [lst_set]
        refine (Does.call (d := some 14) (n := 31) (vs := [.agg (cA (Value.int .u8) y7).toArray, .agg (c_ApiEvent (ApiEvent.mk 7 0 (⟨#[]⟩ : ByteArray) 1 0 (List.replicate 32 (0 : Int)))).toArray]) (by kernel_rfl) en31 (c31 w0 w _ _ hI y7 hl8 (ApiEvent.mk 7 0 (⟨#[]⟩ : ByteArray) 1 0 (List.replicate 32 (0 : Int))) (by kernel_rfl) _ hc9) ?_)
        rintro e w ⟨rfl, hl11, hI⟩
        refine ⟨_, rfl, ?_⟩
        refine ⟨fun _ _ => hI, ?_⟩
        refine GmT.p' 3 11 (.tuple #[.agg (cA (Value.int .u8) y10).toArray, .bool y12]) (by kernel_rfl) (by kernel_rfl) ?_
        refine GmT.p' 4 15 (.agg (cA (Value.int .u8) y10).toArray) (by kernel_rfl) (by kernel_rfl) ?_
        refine GmT.p' 5 16 (.bool y12) (by kernel_rfl) (by kernel_rfl) ?_
        refine GmT.o (i := 6) (by kernel_rfl) (Does.allocL (d := 2) (T := 55) (cA (Value.int .u8) (List.replicate 32 (0 : Int))) (by kernel_rfl) ty55 hI (by kernel_rfl) ?_)
        intro b13 w hI
        have hC := hI
        have hC := hC.drop
        refine ⟨fun _ _ => hC, ?_⟩
        refine GmT.o (i := 7) (by kernel_rfl) (Does.storeAll (T := 55) (b := b13) (n := 32) (xs := (List.replicate 32 (0 : Int))) (ys := y10) (by kernel_rfl) ty55 hI (fun _ => rfl) (by kernel_rfl) hl11 ?_)
        intro w hI
        refine ⟨fun h => absurd h (by decide), ?_⟩
        refine GmT.p' 8 3 (.bool y12) (by kernel_rfl) (by kernel_rfl) ?_
        refine GmT.done (by kernel_rfl) ?_
        have e := someS h1
        subst e
        exact Qn.thenJ fun a ha => ⟨y10, y12, b13, rfl, ha.keep [1, 2, 3] (by kernel_rfl), hI, hl11⟩
      ·
        rw [lst_set]
        refine (Does.allocL (d := 2) (T := 55) (cA (Value.int .u8) (List.replicate 32 (0 : Int))) (by kernel_rfl) ty55 hI (by kernel_rfl) ?_)
        intro b14 w hI
        have hC := hI
        have hC := hC.drop
        refine ⟨fun _ _ => hC, ?_⟩
        obtain ⟨⟨y16, y18⟩, hc15, h1⟩ := bindS h1
        try dsimp only at h1
        refine GmT.o (i := 2) (by kernel_rfl) (Does.call (d := some 14) (n := 31) (vs := [.agg (cA (Value.int .u8) y7).toArray, .agg (c_ApiEvent (ApiEvent.mk 7 0 (⟨#[]⟩ : ByteArray) 1 0 (List.replicate 32 (0 : Int)))).toArray]) (by kernel_rfl) en31 (c31 w0 w _ _ hI y7 hl8 (ApiEvent.mk 7 0 (⟨#[]⟩ : ByteArray) 1 0 (List.replicate 32 (0 : Int))) (by kernel_rfl) _ hc15) ?_)
        rintro e w ⟨rfl, hl17, hI⟩
        refine ⟨_, rfl, ?_⟩
        have hC := hI
        have hC := hC.drop
        refine ⟨fun _ _ => hC, ?_⟩
        refine GmT.p' 3 11 (.tuple #[.agg (cA (Value.int .u8) y16).toArray, .bool y18]) (by kernel_rfl) (by kernel_rfl) ?_
        refine GmT.p' 4 15 (.agg (cA (Value.int .u8) y16).toArray) (by kernel_rfl) (by kernel_rfl) ?_
        refine GmT.p' 5 16 (.bool y18) (by kernel_rfl) (by kernel_rfl) ?_
        refine GmT.o (i := 7) (by kernel_rfl) (Does.storeAll (T := 55) (b := b14) (n := 32) (xs := (List.replicate 32 (0 : Int))) (ys := y16) (by kernel_rfl) ty55 hI (fun _ => rfl) (by kernel_rfl) hl17 ?_)
        intro w hI
        refine ⟨fun h => absurd h (by decide), ?_⟩
        refine GmT.p' 8 3 (.bool y18) (by kernel_rfl) (by kernel_rfl) ?_
        refine GmT.done (by kernel_rfl) ?_
        have e := someS h1
        subst e
        exact Qn.thenJ fun a ha => ⟨y16, y18, b14, rfl, ha.keep [1, 2, 3] (by kernel_rfl), hI, hl17⟩
    ·
      rw [lst_set]
      refine (Does.allocL (d := 2) (T := 55) (cA (Value.int .u8) (List.replicate 32 (0 : Int))) (by kernel_rfl) ty55 hI (by kernel_rfl) ?_)
      intro b19 w hI
      have hC := hI
      have hC := hC.drop
      refine ⟨fun _ _ => hC, ?_⟩
      obtain ⟨y21, hc20, h1⟩ := bindS h1
      try dsimp only at h1
      refine GmT.o (i := 0) (by kernel_rfl) (Does.call (d := some 12) (n := 67) (vs := []) (by kernel_rfl) en67 (c67 w0 w _ _ hI _ hc20) ?_)
      rintro e w ⟨rfl, hl22, hI⟩
      refine ⟨_, rfl, ?_⟩
      have hC := hI
      have hC := hC.drop
      refine ⟨fun _ _ => hC, ?_⟩
      obtain ⟨⟨y24, y26⟩, hc23, h1⟩ := bindS h1
      try dsimp only at h1
      refine GmT.o (i := 2) (by kernel_rfl) (Does.call (d := some 14) (n := 31) (vs := [.agg (cA (Value.int .u8) y21).toArray, .agg (c_ApiEvent (ApiEvent.mk 7 0 (⟨#[]⟩ : ByteArray) 1 0 (List.replicate 32 (0 : Int)))).toArray]) (by kernel_rfl) en31 (c31 w0 w _ _ hI y21 hl22 (ApiEvent.mk 7 0 (⟨#[]⟩ : ByteArray) 1 0 (List.replicate 32 (0 : Int))) (by kernel_rfl) _ hc23) ?_)
      rintro e w ⟨rfl, hl25, hI⟩
      refine ⟨_, rfl, ?_⟩
      have hC := hI
      have hC := hC.drop
      refine ⟨fun _ _ => hC, ?_⟩
      refine GmT.p' 3 11 (.tuple #[.agg (cA (Value.int .u8) y24).toArray, .bool y26]) (by kernel_rfl) (by kernel_rfl) ?_
      refine GmT.p' 4 15 (.agg (cA (Value.int .u8) y24).toArray) (by kernel_rfl) (by kernel_rfl) ?_
      refine GmT.p' 5 16 (.bool y26) (by kernel_rfl) (by kernel_rfl) ?_
      refine GmT.o (i := 7) (by kernel_rfl) (Does.storeAll (T := 55) (b := b19) (n := 32) (xs := (List.replicate 32 (0 : Int))) (ys := y24) (by kernel_rfl) ty55 hI (fun _ => rfl) (by kernel_rfl) hl25 ?_)
      intro w hI
      refine ⟨fun h => absurd h (by decide), ?_⟩
      refine GmT.p' 8 3 (.bool y26) (by kernel_rfl) (by kernel_rfl) ?_
      refine GmT.done (by kernel_rfl) ?_
      have e := someS h1
      subst e
      exact Qn.thenJ fun a ha => ⟨y24, y26, b19, rfl, ha.keep [1, 2, 3] (by kernel_rfl), hI, hl25⟩
  ·
    rintro a w ⟨x3, x5, b2, rfl, ha, hI, hl4⟩
    try dsimp only at h0
    refine CodT.of ?_ ha
    obtain ⟨r1, h1, h0⟩ := bindS h0
    refine CodT.meet (fun a w => ∃ (x30 : (List Int)) (x32 : Bool) (Z27 : Hp) (b29 : Nat), (x30, x32) = r1 ∧ Fr 82 [(1, .pointer (some ⟨b1, 0, none⟩)), (2, .pointer (some ⟨b2, 0, none⟩)), (3, .bool x5), (4, .pointer (some ⟨b29, 0, none⟩)), (5, .bool x32)] a ∧ Inv w0 Z27 w (star (pt b29 (.cells (cA (Value.int .u8) x30).toArray 55 (0, 0))) (star (pt b2 (.cells (cA (Value.int .u8) x3).toArray 55 (0, 0))) (star (pt b1 (.cells (c_ApiEvent (ApiEvent.mk 7 0 (⟨#[]⟩ : ByteArray) 1 0 (List.replicate 32 (0 : Int)))).toArray 65 (0, 0))) A))) ∧ Z.le Z27 ∧ x30.length = 32) ?_ ?_
    ·
      refine CodT.drawI (n := 10) [8] (by kernel_rfl) (by kernel_rfl) hI ?_
      intro w hI
      refine GmT.r (i := 1) 2 (by kernel_rfl) (by kernel_rfl) (Yl.load (d := 19) (T := 65) (v := .agg (c_ApiEvent (ApiEvent.mk 7 0 (⟨#[]⟩ : ByteArray) 1 0 (List.replicate 32 (0 : Int)))).toArray) (by kernel_rfl) (ldBN ty65 (l := c_ApiEvent (ApiEvent.mk 7 0 (⟨#[]⟩ : ByteArray) 1 0 (List.replicate 32 (0 : Int)))) (o := 0) (cs := c_ApiEvent (ApiEvent.mk 7 0 (⟨#[]⟩ : ByteArray) 1 0 (List.replicate 32 (0 : Int)))) (pick2 _ _ _) (len_ApiEvent _ (by kernel_rfl)) (whole _ _ (len_ApiEvent _ (by kernel_rfl))))) hI ?_
      refine GmT.several [0, 2, 7] (by kernel_rfl) rfl ?_
      intro i hi; simp only [List.mem_cons, List.not_mem_nil, or_false] at hi; rcases hi with rfl | rfl | rfl
      ·
        obtain ⟨y34, hc33, h1⟩ := bindS h1
        try dsimp only at h1
        rw [lst_set]
        refine (Does.call (d := some 18) (n := 67) (vs := []) (by kernel_rfl) en67 (c67 w0 w _ _ hI _ hc33) ?_)
        rintro e w ⟨rfl, hl35, hI⟩
        refine ⟨_, rfl, ?_⟩
        refine ⟨fun _ _ => hI, ?_⟩
        refine GmT.several [2, 7] (by kernel_rfl) rfl ?_
        intro i hi; simp only [List.mem_cons, List.not_mem_nil, or_false] at hi; rcases hi with rfl | rfl
        ·
          rw [lst_set]
          refine (Does.buildSliceAll (en := c_ApiEvent) (d := 20) (n := 1) (T := 56) (ps := [(0, .agg (c_ApiEvent (ApiEvent.mk 7 0 (⟨#[]⟩ : ByteArray) 1 0 (List.replicate 32 (0 : Int)))).toArray)]) (fun y => .agg (c_ApiEvent y).toArray) (fun _ => rfl) ([(ApiEvent.mk 7 0 (⟨#[]⟩ : ByteArray) 1 0 (List.replicate 32 (0 : Int)))] : List ApiEvent) (by kernel_rfl) rfl Go.Proofs.Try.underlying56 ty65 rfl (by kernel_rfl) (by kernel_rfl) (by decide +kernel) (List.forall_mem_cons.2 ⟨(len_ApiEvent _ (by kernel_rfl)), (fun _ h => by cases h)⟩) hI ?_)
          intro b36 w hI
          have hC := hI
          have hC := hC.drop
          refine ⟨fun _ _ => hC, ?_⟩
          refine GmT.several [3, 7] (by kernel_rfl) rfl ?_
          intro i hi; simp only [List.mem_cons, List.not_mem_nil, or_false] at hi; rcases hi with rfl | rfl
          ·
            obtain ⟨Z37, hle38, hr39, hI⟩ := ownS_freeze hI
            obtain ⟨⟨y41, y43⟩, hc40, h1⟩ := bindS h1
            try dsimp only at h1
            rw [lst_set]
            refine (Does.call (d := some 21) (n := 27) (vs := [.agg (cA (Value.int .u8) y34).toArray, .slice (some ⟨b36, 0, none⟩) (([(ApiEvent.mk 7 0 (⟨#[]⟩ : ByteArray) 1 0 (List.replicate 32 (0 : Int)))] : List ApiEvent).length) 1]) (by kernel_rfl) en27 (c27 w0 w _ _ hI y34 hl35 (some ⟨b36, 0, none⟩) 1 ([(ApiEvent.mk 7 0 (⟨#[]⟩ : ByteArray) 1 0 (List.replicate 32 (0 : Int)))] : List ApiEvent) hr39 _ hc40) ?_)
            rintro e w ⟨rfl, hl42, hI⟩
            refine ⟨_, rfl, ?_⟩
            have hC := hI
            have hC := hC.weaken hle38
            refine ⟨fun _ _ => hC, ?_⟩
            refine GmT.p' 4 17 (.tuple #[.agg (cA (Value.int .u8) y41).toArray, .bool y43]) (by kernel_rfl) (by kernel_rfl) ?_
            refine GmT.p' 5 22 (.agg (cA (Value.int .u8) y41).toArray) (by kernel_rfl) (by kernel_rfl) ?_
            refine GmT.p' 6 23 (.bool y43) (by kernel_rfl) (by kernel_rfl) ?_
            refine GmT.o (i := 7) (by kernel_rfl) (Does.allocL (d := 4) (T := 55) (cA (Value.int .u8) (List.replicate 32 (0 : Int))) (by kernel_rfl) ty55 hI (by kernel_rfl) ?_)
            intro b44 w hI
            have hC := hI
            have hC := hC.drop
            have hC := hC.weaken hle38
            refine ⟨fun _ _ => hC, ?_⟩
            refine GmT.o (i := 8) (by kernel_rfl) (Does.storeAll (T := 55) (b := b44) (n := 32) (xs := (List.replicate 32 (0 : Int))) (ys := y41) (by kernel_rfl) ty55 hI (fun _ => rfl) (by kernel_rfl) hl42 ?_)
            intro w hI
            refine ⟨fun h => absurd h (by decide), ?_⟩
            refine GmT.p' 9 5 (.bool y43) (by kernel_rfl) (by kernel_rfl) ?_
            refine GmT.done (by kernel_rfl) ?_
            have e := someS h1
            subst e
            exact Qn.thenJ fun a ha => ⟨y41, y43, Z37, b44, rfl, ha.keep [1, 2, 3, 4, 5] (by kernel_rfl), hI, hle38, hl42⟩
          ·
            rw [lst_set]
            refine (Does.allocL (d := 4) (T := 55) (cA (Value.int .u8) (List.replicate 32 (0 : Int))) (by kernel_rfl) ty55 hI (by kernel_rfl) ?_)
            intro b45 w hI
            have hC := hI
            have hC := hC.drop
            have hC := hC.drop
            refine ⟨fun _ _ => hC, ?_⟩
            have hI := hI.mono (pick2 _ _ _)
            obtain ⟨Z46, hle47, hr48, hI⟩ := ownS_freeze hI
            obtain ⟨⟨y50, y52⟩, hc49, h1⟩ := bindS h1
            try dsimp only at h1
            refine GmT.o (i := 3) (by kernel_rfl) (Does.call (d := some 21) (n := 27) (vs := [.agg (cA (Value.int .u8) y34).toArray, .slice (some ⟨b36, 0, none⟩) (([(ApiEvent.mk 7 0 (⟨#[]⟩ : ByteArray) 1 0 (List.replicate 32 (0 : Int)))] : List ApiEvent).length) 1]) (by kernel_rfl) en27 (c27 w0 w _ _ hI y34 hl35 (some ⟨b36, 0, none⟩) 1 ([(ApiEvent.mk 7 0 (⟨#[]⟩ : ByteArray) 1 0 (List.replicate 32 (0 : Int)))] : List ApiEvent) hr48 _ hc49) ?_)
            rintro e w ⟨rfl, hl51, hI⟩
            refine ⟨_, rfl, ?_⟩
            have hC := hI
            have hC := hC.drop
            have hC := hC.weaken hle47
            refine ⟨fun _ _ => hC, ?_⟩
            refine GmT.p' 4 17 (.tuple #[.agg (cA (Value.int .u8) y50).toArray, .bool y52]) (by kernel_rfl) (by kernel_rfl) ?_
            refine GmT.p' 5 22 (.agg (cA (Value.int .u8) y50).toArray) (by kernel_rfl) (by kernel_rfl) ?_
            refine GmT.p' 6 23 (.bool y52) (by kernel_rfl) (by kernel_rfl) ?_
            refine GmT.o (i := 8) (by kernel_rfl) (Does.storeAll (T := 55) (b := b45) (n := 32) (xs := (List.replicate 32 (0 : Int))) (ys := y50) (by kernel_rfl) ty55 hI (fun _ => rfl) (by kernel_rfl) hl51 ?_)
            intro w hI
            refine ⟨fun h => absurd h (by decide), ?_⟩
            refine GmT.p' 9 5 (.bool y52) (by kernel_rfl) (by kernel_rfl) ?_
            refine GmT.done (by kernel_rfl) ?_
            have e := someS h1
            subst e
            exact Qn.thenJ fun a ha => ⟨y50, y52, Z46, b45, rfl, ha.keep [1, 2, 3, 4, 5] (by kernel_rfl), hI, hle47, hl51⟩
        ·
          rw [lst_set]
          refine (Does.allocL (d := 4) (T := 55) (cA (Value.int .u8) (List.replicate 32 (0 : Int))) (by kernel_rfl) ty55 hI (by kernel_rfl) ?_)
          intro b53 w hI
          have hC := hI
          have hC := hC.drop
          refine ⟨fun _ _ => hC, ?_⟩
          refine GmT.o (i := 2) (by kernel_rfl) (Does.buildSliceAll (en := c_ApiEvent) (d := 20) (n := 1) (T := 56) (ps := [(0, .agg (c_ApiEvent (ApiEvent.mk 7 0 (⟨#[]⟩ : ByteArray) 1 0 (List.replicate 32 (0 : Int)))).toArray)]) (fun y => .agg (c_ApiEvent y).toArray) (fun _ => rfl) ([(ApiEvent.mk 7 0 (⟨#[]⟩ : ByteArray) 1 0 (List.replicate 32 (0 : Int)))] : List ApiEvent) (by kernel_rfl) rfl Go.Proofs.Try.underlying56 ty65 rfl (by kernel_rfl) (by kernel_rfl) (by decide +kernel) (List.forall_mem_cons.2 ⟨(len_ApiEvent _ (by kernel_rfl)), (fun _ h => by cases h)⟩) hI ?_)
          intro b54 w hI
          have hC := hI
          have hC := hC.drop
          have hC := hC.drop
          refine ⟨fun _ _ => hC, ?_⟩
          obtain ⟨Z55, hle56, hr57, hI⟩ := ownS_freeze hI
          obtain ⟨⟨y59, y61⟩, hc58, h1⟩ := bindS h1
          try dsimp only at h1
          refine GmT.o (i := 3) (by kernel_rfl) (Does.call (d := some 21) (n := 27) (vs := [.agg (cA (Value.int .u8) y34).toArray, .slice (some ⟨b54, 0, none⟩) (([(ApiEvent.mk 7 0 (⟨#[]⟩ : ByteArray) 1 0 (List.replicate 32 (0 : Int)))] : List ApiEvent).length) 1]) (by kernel_rfl) en27 (c27 w0 w _ _ hI y34 hl35 (some ⟨b54, 0, none⟩) 1 ([(ApiEvent.mk 7 0 (⟨#[]⟩ : ByteArray) 1 0 (List.replicate 32 (0 : Int)))] : List ApiEvent) hr57 _ hc58) ?_)
          rintro e w ⟨rfl, hl60, hI⟩
          refine ⟨_, rfl, ?_⟩
          have hC := hI
          have hC := hC.drop
          have hC := hC.weaken hle56
          refine ⟨fun _ _ => hC, ?_⟩
          refine GmT.p' 4 17 (.tuple #[.agg (cA (Value.int .u8) y59).toArray, .bool y61]) (by kernel_rfl) (by kernel_rfl) ?_
          refine GmT.p' 5 22 (.agg (cA (Value.int .u8) y59).toArray) (by kernel_rfl) (by kernel_rfl) ?_
          refine GmT.p' 6 23 (.bool y61) (by kernel_rfl) (by kernel_rfl) ?_
          refine GmT.o (i := 8) (by kernel_rfl) (Does.storeAll (T := 55) (b := b53) (n := 32) (xs := (List.replicate 32 (0 : Int))) (ys := y59) (by kernel_rfl) ty55 hI (fun _ => rfl) (by kernel_rfl) hl60 ?_)
          intro w hI
          refine ⟨fun h => absurd h (by decide), ?_⟩
          refine GmT.p' 9 5 (.bool y61) (by kernel_rfl) (by kernel_rfl) ?_
          refine GmT.done (by kernel_rfl) ?_
          have e := someS h1
          subst e
          exact Qn.thenJ fun a ha => ⟨y59, y61, Z55, b53, rfl, ha.keep [1, 2, 3, 4, 5] (by kernel_rfl), hI, hle56, hl60⟩
      ·
        rw [lst_set]
        refine (Does.buildSliceAll (en := c_ApiEvent) (d := 20) (n := 1) (T := 56) (ps := [(0, .agg (c_ApiEvent (ApiEvent.mk 7 0 (⟨#[]⟩ : ByteArray) 1 0 (List.replicate 32 (0 : Int)))).toArray)]) (fun y => .agg (c_ApiEvent y).toArray) (fun _ => rfl) ([(ApiEvent.mk 7 0 (⟨#[]⟩ : ByteArray) 1 0 (List.replicate 32 (0 : Int)))] : List ApiEvent) (by kernel_rfl) rfl Go.Proofs.Try.underlying56 ty65 rfl (by kernel_rfl) (by kernel_rfl) (by decide +kernel) (List.forall_mem_cons.2 ⟨(len_ApiEvent _ (by kernel_rfl)), (fun _ h => by cases h)⟩) hI ?_)
        intro b62 w hI
        have hC := hI
        have hC := hC.drop
        refine ⟨fun _ _ => hC, ?_⟩
        refine GmT.several [0, 7] (by kernel_rfl) rfl ?_
        intro i hi; simp only [List.mem_cons, List.not_mem_nil, or_false] at hi; rcases hi with rfl | rfl
        ·
          obtain ⟨y64, hc63, h1⟩ := bindS h1
          try dsimp only at h1
          rw [lst_set]
          refine (Does.call (d := some 18) (n := 67) (vs := []) (by kernel_rfl) en67 (c67 w0 w _ _ hI _ hc63) ?_)
          rintro e w ⟨rfl, hl65, hI⟩
          refine ⟨_, rfl, ?_⟩
          have hC := hI
          have hC := hC.drop
          refine ⟨fun _ _ => hC, ?_⟩
          refine GmT.several [3, 7] (by kernel_rfl) rfl ?_
          intro i hi; simp only [List.mem_cons, List.not_mem_nil, or_false] at hi; rcases hi with rfl | rfl
          ·
            obtain ⟨Z66, hle67, hr68, hI⟩ := ownS_freeze hI
            obtain ⟨⟨y70, y72⟩, hc69, h1⟩ := bindS h1
            try dsimp only at h1
            rw [lst_set]
            refine (Does.call (d := some 21) (n := 27) (vs := [.agg (cA (Value.int .u8) y64).toArray, .slice (some ⟨b62, 0, none⟩) (([(ApiEvent.mk 7 0 (⟨#[]⟩ : ByteArray) 1 0 (List.replicate 32 (0 : Int)))] : List ApiEvent).length) 1]) (by kernel_rfl) en27 (c27 w0 w _ _ hI y64 hl65 (some ⟨b62, 0, none⟩) 1 ([(ApiEvent.mk 7 0 (⟨#[]⟩ : ByteArray) 1 0 (List.replicate 32 (0 : Int)))] : List ApiEvent) hr68 _ hc69) ?_)
            rintro e w ⟨rfl, hl71, hI⟩
            refine ⟨_, rfl, ?_⟩
            have hC := hI
            have hC := hC.weaken hle67
            refine ⟨fun _ _ => hC, ?_⟩
            refine GmT.p' 4 17 (.tuple #[.agg (cA (Value.int .u8) y70).toArray, .bool y72]) (by kernel_rfl) (by kernel_rfl) ?_
            refine GmT.p' 5 22 (.agg (cA (Value.int .u8) y70).toArray) (by kernel_rfl) (by kernel_rfl) ?_
            refine GmT.p' 6 23 (.bool y72) (by kernel_rfl) (by kernel_rfl) ?_
            refine GmT.o (i := 7) (by kernel_rfl) (Does.allocL (d := 4) (T := 55) (cA (Value.int .u8) (List.replicate 32 (0 : Int))) (by kernel_rfl) ty55 hI (by kernel_rfl) ?_)
            intro b73 w hI
            have hC := hI
            have hC := hC.drop
            have hC := hC.weaken hle67
            refine ⟨fun _ _ => hC, ?_⟩
            refine GmT.o (i := 8) (by kernel_rfl) (Does.storeAll (T := 55) (b := b73) (n := 32) (xs := (List.replicate 32 (0 : Int))) (ys := y70) (by kernel_rfl) ty55 hI (fun _ => rfl) (by kernel_rfl) hl71 ?_)
            intro w hI
            refine ⟨fun h => absurd h (by decide), ?_⟩
            refine GmT.p' 9 5 (.bool y72) (by kernel_rfl) (by kernel_rfl) ?_
            refine GmT.done (by kernel_rfl) ?_
            have e := someS h1
            subst e
            exact Qn.thenJ fun a ha => ⟨y70, y72, Z66, b73, rfl, ha.keep [1, 2, 3, 4, 5] (by kernel_rfl), hI, hle67, hl71⟩
          ·
            rw [lst_set]
            refine (Does.allocL (d := 4) (T := 55) (cA (Value.int .u8) (List.replicate 32 (0 : Int))) (by kernel_rfl) ty55 hI (by kernel_rfl) ?_)
            intro b74 w hI
            have hC := hI
            have hC := hC.drop
            have hC := hC.drop
            refine ⟨fun _ _ => hC, ?_⟩
            have hI := hI.mono (pick2 _ _ _)
            obtain ⟨Z75, hle76, hr77, hI⟩ := ownS_freeze hI
            obtain ⟨⟨y79, y81⟩, hc78, h1⟩ := bindS h1
            try dsimp only at h1
            refine GmT.o (i := 3) (by kernel_rfl) (Does.call (d := some 21) (n := 27) (vs := [.agg (cA (Value.int .u8) y64).toArray, .slice (some ⟨b62, 0, none⟩) (([(ApiEvent.mk 7 0 (⟨#[]⟩ : ByteArray) 1 0 (List.replicate 32 (0 : Int)))] : List ApiEvent).length) 1]) (by kernel_rfl) en27 (c27 w0 w _ _ hI y64 hl65 (some ⟨b62, 0, none⟩) 1 ([(ApiEvent.mk 7 0 (⟨#[]⟩ : ByteArray) 1 0 (List.replicate 32 (0 : Int)))] : List ApiEvent) hr77 _ hc78) ?_)
            rintro e w ⟨rfl, hl80, hI⟩
            refine ⟨_, rfl, ?_⟩
            have hC := hI
            have hC := hC.drop
            have hC := hC.weaken hle76
            refine ⟨fun _ _ => hC, ?_⟩
            refine GmT.p' 4 17 (.tuple #[.agg (cA (Value.int .u8) y79).toArray, .bool y81]) (by kernel_rfl) (by kernel_rfl) ?_
            refine GmT.p' 5 22 (.agg (cA (Value.int .u8) y79).toArray) (by kernel_rfl) (by kernel_rfl) ?_
            refine GmT.p' 6 23 (.bool y81) (by kernel_rfl) (by kernel_rfl) ?_
            refine GmT.o (i := 8) (by kernel_rfl) (Does.storeAll (T := 55) (b := b74) (n := 32) (xs := (List.replicate 32 (0 : Int))) (ys := y79) (by kernel_rfl) ty55 hI (fun _ => rfl) (by kernel_rfl) hl80 ?_)
            intro w hI
            refine ⟨fun h => absurd h (by decide), ?_⟩
            refine GmT.p' 9 5 (.bool y81) (by kernel_rfl) (by kernel_rfl) ?_
            refine GmT.done (by kernel_rfl) ?_
            have e := someS h1
            subst e
            exact Qn.thenJ fun a ha => ⟨y79, y81, Z75, b74, rfl, ha.keep [1, 2, 3, 4, 5] (by kernel_rfl), hI, hle76, hl80⟩
        ·
          rw [lst_set]
          refine (Does.allocL (d := 4) (T := 55) (cA (Value.int .u8) (List.replicate 32 (0 : Int))) (by kernel_rfl) ty55 hI (by kernel_rfl) ?_)
          intro b82 w hI
          have hC := hI
          have hC := hC.drop
          have hC := hC.drop
          refine ⟨fun _ _ => hC, ?_⟩
          obtain ⟨y84, hc83, h1⟩ := bindS h1
          try dsimp only at h1
          refine GmT.o (i := 0) (by kernel_rfl) (Does.call (d := some 18) (n := 67) (vs := []) (by kernel_rfl) en67 (c67 w0 w _ _ hI _ hc83) ?_)
          rintro e w ⟨rfl, hl85, hI⟩
          refine ⟨_, rfl, ?_⟩
          have hC := hI
          have hC := hC.drop
          have hC := hC.drop
          refine ⟨fun _ _ => hC, ?_⟩
          have hI := hI.mono (pick2 _ _ _)
          obtain ⟨Z86, hle87, hr88, hI⟩ := ownS_freeze hI
          obtain ⟨⟨y90, y92⟩, hc89, h1⟩ := bindS h1
          try dsimp only at h1
          refine GmT.o (i := 3) (by kernel_rfl) (Does.call (d := some 21) (n := 27) (vs := [.agg (cA (Value.int .u8) y84).toArray, .slice (some ⟨b62, 0, none⟩) (([(ApiEvent.mk 7 0 (⟨#[]⟩ : ByteArray) 1 0 (List.replicate 32 (0 : Int)))] : List ApiEvent).length) 1]) (by kernel_rfl) en27 (c27 w0 w _ _ hI y84 hl85 (some ⟨b62, 0, none⟩) 1 ([(ApiEvent.mk 7 0 (⟨#[]⟩ : ByteArray) 1 0 (List.replicate 32 (0 : Int)))] : List ApiEvent) hr88 _ hc89) ?_)
          rintro e w ⟨rfl, hl91, hI⟩
          refine ⟨_, rfl, ?_⟩
          have hC := hI
          have hC := hC.drop
          have hC := hC.weaken hle87
          refine ⟨fun _ _ => hC, ?_⟩
          refine GmT.p' 4 17 (.tuple #[.agg (cA (Value.int .u8) y90).toArray, .bool y92]) (by kernel_rfl) (by kernel_rfl) ?_
          refine GmT.p' 5 22 (.agg (cA (Value.int .u8) y90).toArray) (by kernel_rfl) (by kernel_rfl) ?_
          refine GmT.p' 6 23 (.bool y92) (by kernel_rfl) (by kernel_rfl) ?_
          refine GmT.o (i := 8) (by kernel_rfl) (Does.storeAll (T := 55) (b := b82) (n := 32) (xs := (List.replicate 32 (0 : Int))) (ys := y90) (by kernel_rfl) ty55 hI (fun _ => rfl) (by kernel_rfl) hl91 ?_)
          intro w hI
          refine ⟨fun h => absurd h (by decide), ?_⟩
          refine GmT.p' 9 5 (.bool y92) (by kernel_rfl) (by kernel_rfl) ?_
          refine GmT.done (by kernel_rfl) ?_
          have e := someS h1
          subst e
          exact Qn.thenJ fun a ha => ⟨y90, y92, Z86, b82, rfl, ha.keep [1, 2, 3, 4, 5] (by kernel_rfl), hI, hle87, hl91⟩
      ·
        rw [lst_set]
        refine (Does.allocL (d := 4) (T := 55) (cA (Value.int .u8) (List.replicate 32 (0 : Int))) (by kernel_rfl) ty55 hI (by kernel_rfl) ?_)
        intro b93 w hI
        have hC := hI
        have hC := hC.drop
        refine ⟨fun _ _ => hC, ?_⟩
        refine GmT.several [0, 2] (by kernel_rfl) rfl ?_
        intro i hi; simp only [List.mem_cons, List.not_mem_nil, or_false] at hi; rcases hi with rfl | rfl
        ·
          obtain ⟨y95, hc94, h1⟩ := bindS h1
          try dsimp only at h1
          rw [lst_set]
          refine (Does.call (d := some 18) (n := 67) (vs := []) (by kernel_rfl) en67 (c67 w0 w _ _ hI _ hc94) ?_)
          rintro e w ⟨rfl, hl96, hI⟩
          refine ⟨_, rfl, ?_⟩
          have hC := hI
          have hC := hC.drop
          refine ⟨fun _ _ => hC, ?_⟩
          refine GmT.o (i := 2) (by kernel_rfl) (Does.buildSliceAll (en := c_ApiEvent) (d := 20) (n := 1) (T := 56) (ps := [(0, .agg (c_ApiEvent (ApiEvent.mk 7 0 (⟨#[]⟩ : ByteArray) 1 0 (List.replicate 32 (0 : Int)))).toArray)]) (fun y => .agg (c_ApiEvent y).toArray) (fun _ => rfl) ([(ApiEvent.mk 7 0 (⟨#[]⟩ : ByteArray) 1 0 (List.replicate 32 (0 : Int)))] : List ApiEvent) (by kernel_rfl) rfl Go.Proofs.Try.underlying56 ty65 rfl (by kernel_rfl) (by kernel_rfl) (by decide +kernel) (List.forall_mem_cons.2 ⟨(len_ApiEvent _ (by kernel_rfl)), (fun _ h => by cases h)⟩) hI ?_)
          intro b97 w hI
          have hC := hI
          have hC := hC.drop
          have hC := hC.drop
          refine ⟨fun _ _ => hC, ?_⟩
          obtain ⟨Z98, hle99, hr100, hI⟩ := ownS_freeze hI
          obtain ⟨⟨y102, y104⟩, hc101, h1⟩ := bindS h1
          try dsimp only at h1
          refine GmT.o (i := 3) (by kernel_rfl) (Does.call (d := some 21) (n := 27) (vs := [.agg (cA (Value.int .u8) y95).toArray, .slice (some ⟨b97, 0, none⟩) (([(ApiEvent.mk 7 0 (⟨#[]⟩ : ByteArray) 1 0 (List.replicate 32 (0 : Int)))] : List ApiEvent).length) 1]) (by kernel_rfl) en27 (c27 w0 w _ _ hI y95 hl96 (some ⟨b97, 0, none⟩) 1 ([(ApiEvent.mk 7 0 (⟨#[]⟩ : ByteArray) 1 0 (List.replicate 32 (0 : Int)))] : List ApiEvent) hr100 _ hc101) ?_)
          rintro e w ⟨rfl, hl103, hI⟩
          refine ⟨_, rfl, ?_⟩
          have hC := hI
          have hC := hC.drop
          have hC := hC.weaken hle99
          refine ⟨fun _ _ => hC, ?_⟩
          refine GmT.p' 4 17 (.tuple #[.agg (cA (Value.int .u8) y102).toArray, .bool y104]) (by kernel_rfl) (by kernel_rfl) ?_
          refine GmT.p' 5 22 (.agg (cA (Value.int .u8) y102).toArray) (by kernel_rfl) (by kernel_rfl) ?_
          refine GmT.p' 6 23 (.bool y104) (by kernel_rfl) (by kernel_rfl) ?_
          refine GmT.o (i := 8) (by kernel_rfl) (Does.storeAll (T := 55) (b := b93) (n := 32) (xs := (List.replicate 32 (0 : Int))) (ys := y102) (by kernel_rfl) ty55 hI (fun _ => rfl) (by kernel_rfl) hl103 ?_)
          intro w hI
          refine ⟨fun h => absurd h (by decide), ?_⟩
          refine GmT.p' 9 5 (.bool y104) (by kernel_rfl) (by kernel_rfl) ?_
          refine GmT.done (by kernel_rfl) ?_
          have e := someS h1
          subst e
          exact Qn.thenJ fun a ha => ⟨y102, y104, Z98, b93, rfl, ha.keep [1, 2, 3, 4, 5] (by kernel_rfl), hI, hle99, hl103⟩
        ·
          rw [lst_set]
          refine (Does.buildSliceAll (en := c_ApiEvent) (d := 20) (n := 1) (T := 56) (ps := [(0, .agg (c_ApiEvent (ApiEvent.mk 7 0 (⟨#[]⟩ : ByteArray) 1 0 (List.replicate 32 (0 : Int)))).toArray)]) (fun y => .agg (c_ApiEvent y).toArray) (fun _ => rfl) ([(ApiEvent.mk 7 0 (⟨#[]⟩ : ByteArray) 1 0 (List.replicate 32 (0 : Int)))] : List ApiEvent) (by kernel_rfl) rfl Go.Proofs.Try.underlying56 ty65 rfl (by kernel_rfl) (by kernel_rfl) (by decide +kernel) (List.forall_mem_cons.2 ⟨(len_ApiEvent _ (by kernel_rfl)), (fun _ h => by cases h)⟩) hI ?_)
          intro b105 w hI
          have hC := hI
          have hC := hC.drop
          have hC := hC.drop
          refine ⟨fun _ _ => hC, ?_⟩
          obtain ⟨y107, hc106, h1⟩ := bindS h1
          try dsimp only at h1
          refine GmT.o (i := 0) (by kernel_rfl) (Does.call (d := some 18) (n := 67) (vs := []) (by kernel_rfl) en67 (c67 w0 w _ _ hI _ hc106) ?_)
          rintro e w ⟨rfl, hl108, hI⟩
          refine ⟨_, rfl, ?_⟩
          have hC := hI
          have hC := hC.drop
          have hC := hC.drop
          refine ⟨fun _ _ => hC, ?_⟩
          obtain ⟨Z109, hle110, hr111, hI⟩ := ownS_freeze hI
          obtain ⟨⟨y113, y115⟩, hc112, h1⟩ := bindS h1
          try dsimp only at h1
          refine GmT.o (i := 3) (by kernel_rfl) (Does.call (d := some 21) (n := 27) (vs := [.agg (cA (Value.int .u8) y107).toArray, .slice (some ⟨b105, 0, none⟩) (([(ApiEvent.mk 7 0 (⟨#[]⟩ : ByteArray) 1 0 (List.replicate 32 (0 : Int)))] : List ApiEvent).length) 1]) (by kernel_rfl) en27 (c27 w0 w _ _ hI y107 hl108 (some ⟨b105, 0, none⟩) 1 ([(ApiEvent.mk 7 0 (⟨#[]⟩ : ByteArray) 1 0 (List.replicate 32 (0 : Int)))] : List ApiEvent) hr111 _ hc112) ?_)
          rintro e w ⟨rfl, hl114, hI⟩
          refine ⟨_, rfl, ?_⟩
          have hC := hI
          have hC := hC.drop
          have hC := hC.weaken hle110
          refine ⟨fun _ _ => hC, ?_⟩
          refine GmT.p' 4 17 (.tuple #[.agg (cA (Value.int .u8) y113).toArray, .bool y115]) (by kernel_rfl) (by kernel_rfl) ?_
          refine GmT.p' 5 22 (.agg (cA (Value.int .u8) y113).toArray) (by kernel_rfl) (by kernel_rfl) ?_
          refine GmT.p' 6 23 (.bool y115) (by kernel_rfl) (by kernel_rfl) ?_
          refine GmT.o (i := 8) (by kernel_rfl) (Does.storeAll (T := 55) (b := b93) (n := 32) (xs := (List.replicate 32 (0 : Int))) (ys := y113) (by kernel_rfl) ty55 hI (fun _ => rfl) (by kernel_rfl) hl114 ?_)
          intro w hI
          refine ⟨fun h => absurd h (by decide), ?_⟩
          refine GmT.p' 9 5 (.bool y115) (by kernel_rfl) (by kernel_rfl) ?_
          refine GmT.done (by kernel_rfl) ?_
          have e := someS h1
          subst e
          exact Qn.thenJ fun a ha => ⟨y113, y115, Z109, b93, rfl, ha.keep [1, 2, 3, 4, 5] (by kernel_rfl), hI, hle110, hl114⟩
    ·
      rintro a w ⟨x30, x32, Z27, b29, rfl, ha, hI, hle28, hl31⟩
      try dsimp only at h0
      refine CodT.of ?_ ha
      refine CodT.seq ?_
      refine CodT.regionL [0, 1, 2, 3] (by kernel_rfl) ?_
      refine OpsT.cons (Does.yi (Yl.load (d := 24) (T := 65) (v := .agg (c_ApiEvent (ApiEvent.mk 7 0 (⟨#[]⟩ : ByteArray) 1 0 (List.replicate 32 (0 : Int)))).toArray) (by kernel_rfl) (ldBN ty65 (l := c_ApiEvent (ApiEvent.mk 7 0 (⟨#[]⟩ : ByteArray) 1 0 (List.replicate 32 (0 : Int)))) (o := 0) (cs := c_ApiEvent (ApiEvent.mk 7 0 (⟨#[]⟩ : ByteArray) 1 0 (List.replicate 32 (0 : Int)))) (pick3 _ _ _ _) (len_ApiEvent _ (by kernel_rfl)) (whole _ _ (len_ApiEvent _ (by kernel_rfl))))) hI ?_)
      refine OpsT.cons (Does.buildSliceAll (en := c_ApiEvent) (d := 25) (n := 1) (T := 56) (ps := [(0, .agg (c_ApiEvent (ApiEvent.mk 7 0 (⟨#[]⟩ : ByteArray) 1 0 (List.replicate 32 (0 : Int)))).toArray)]) (fun y => .agg (c_ApiEvent y).toArray) (fun _ => rfl) ([(ApiEvent.mk 7 0 (⟨#[]⟩ : ByteArray) 1 0 (List.replicate 32 (0 : Int)))] : List ApiEvent) (by kernel_rfl) rfl Go.Proofs.Try.underlying56 ty65 rfl (by kernel_rfl) (by kernel_rfl) (by decide +kernel) (List.forall_mem_cons.2 ⟨(len_ApiEvent _ (by kernel_rfl)), (fun _ h => by cases h)⟩) hI ?_)
      intro b116 w hI
      obtain ⟨Z117, hle118, hr119, hI⟩ := ownS_freeze hI
      obtain ⟨y121, hc120, h0⟩ := bindS h0
      try dsimp only at h0
      refine OpsT.cons (Does.call (d := some 26) (n := 29) (vs := [.slice (some ⟨b116, 0, none⟩) (([(ApiEvent.mk 7 0 (⟨#[]⟩ : ByteArray) 1 0 (List.replicate 32 (0 : Int)))] : List ApiEvent).length) 1]) (by kernel_rfl) en29 (c29 w0 w _ _ hI (some ⟨b116, 0, none⟩) 1 ([(ApiEvent.mk 7 0 (⟨#[]⟩ : ByteArray) 1 0 (List.replicate 32 (0 : Int)))] : List ApiEvent) hr119 _ hc120) ?_)
      rintro e w ⟨A122, cp123, rfl, hI⟩
      refine ⟨_, rfl, ?_⟩
      refine OpsT.pures (r := []) [3] [1, 2, 3, 4, 5, 6] (S' := [(1, .pointer (some ⟨b1, 0, none⟩)), (2, .pointer (some ⟨b2, 0, none⟩)), (3, .bool x5), (4, .pointer (some ⟨b29, 0, none⟩)), (5, .bool x32), (6, .slice A122 y121.length cp123)]) (by kernel_rfl) ?_
      refine OpsT.done ?_
      refine Qn.then ?_
      refine CodT.seq ?_
      refine CodT.regionL [0, 1, 2, 3, 4, 5, 6, 7, 8, 9] (by kernel_rfl) ?_
      refine OpsT.cons (Does.yi (Yl.load (d := 28) (T := 65) (v := .agg (c_ApiEvent (ApiEvent.mk 7 0 (⟨#[]⟩ : ByteArray) 1 0 (List.replicate 32 (0 : Int)))).toArray) (by kernel_rfl) (ldBN ty65 (l := c_ApiEvent (ApiEvent.mk 7 0 (⟨#[]⟩ : ByteArray) 1 0 (List.replicate 32 (0 : Int)))) (o := 0) (cs := c_ApiEvent (ApiEvent.mk 7 0 (⟨#[]⟩ : ByteArray) 1 0 (List.replicate 32 (0 : Int)))) (pick4 _ _ _ _ _) (len_ApiEvent _ (by kernel_rfl)) (whole _ _ (len_ApiEvent _ (by kernel_rfl))))) hI ?_)
      refine OpsT.cons (Does.buildSliceAll (en := c_ApiEvent) (d := 29) (n := 1) (T := 56) (ps := [(0, .agg (c_ApiEvent (ApiEvent.mk 7 0 (⟨#[]⟩ : ByteArray) 1 0 (List.replicate 32 (0 : Int)))).toArray)]) (fun y => .agg (c_ApiEvent y).toArray) (fun _ => rfl) ([(ApiEvent.mk 7 0 (⟨#[]⟩ : ByteArray) 1 0 (List.replicate 32 (0 : Int)))] : List ApiEvent) (by kernel_rfl) rfl Go.Proofs.Try.underlying56 ty65 rfl (by kernel_rfl) (by kernel_rfl) (by decide +kernel) (List.forall_mem_cons.2 ⟨(len_ApiEvent _ (by kernel_rfl)), (fun _ h => by cases h)⟩) hI ?_)
      intro b124 w hI
      obtain ⟨Z125, hle126, hr127, hI⟩ := ownS_freeze hI
      obtain ⟨⟨y129, y130, y131⟩, hc128, h0⟩ := bindS h0
      try dsimp only at h0
      refine OpsT.cons (Does.call (d := some 30) (n := 68) (vs := [.slice none 0 0, .slice (some ⟨b124, 0, none⟩) (([(ApiEvent.mk 7 0 (⟨#[]⟩ : ByteArray) 1 0 (List.replicate 32 (0 : Int)))] : List ApiEvent).length) 1]) (by kernel_rfl) en68 (c68 w0 w _ _ hI none 0 ([] : List ApiEvent) (RdS.nil _ _ _ _ _ (Nat.zero_le _)) (some ⟨b124, 0, none⟩) 1 ([(ApiEvent.mk 7 0 (⟨#[]⟩ : ByteArray) 1 0 (List.replicate 32 (0 : Int)))] : List ApiEvent) hr127 _ hc128) ?_)
      rintro e w ⟨rfl, hI⟩
      refine ⟨_, rfl, ?_⟩
      refine OpsT.pures (r := []) [3, 4, 5, 6, 7, 8, 9] [1, 2, 3, 4, 5, 6, 9] (S' := [(1, .pointer (some ⟨b1, 0, none⟩)), (2, .pointer (some ⟨b2, 0, none⟩)), (3, .bool x5), (4, .pointer (some ⟨b29, 0, none⟩)), (5, .bool x32), (6, .slice A122 y121.length cp123), (9, .bool y131)]) (by kernel_rfl) ?_
      refine OpsT.done ?_
      refine Qn.then ?_
      obtain ⟨r1, h1, h0⟩ := bindS h0
      refine CodT.meet (fun a w => ∃ (x134 : Bool) (Z132 : Hp), x134 = r1 ∧ Fr 82 [(0, .bool x134)] a ∧ Inv w0 Z132 w A ∧ Z125.le Z132) ?_ ?_
      ·
        refine CodT.drawI (n := 49) [] (by kernel_rfl) (by kernel_rfl) hI ?_
        intro w hI
        obtain ⟨y136, hc135, h1⟩ := bindS h1
        try dsimp only at h1
        refine GmT.o (i := 0) (by kernel_rfl) (Does.call (d := some 34) (n := 67) (vs := []) (by kernel_rfl) en67 (c67 w0 w _ _ hI _ hc135) ?_)
        rintro e w ⟨rfl, hl137, hI⟩
        refine ⟨_, rfl, ?_⟩
        refine ⟨fun _ _ => hI, ?_⟩
        obtain ⟨y139, hc138, h1⟩ := bindS h1
        try dsimp only at h1
        refine GmT.o (i := 1) (by kernel_rfl) (Does.call (d := some 35) (n := 69) (vs := [.string (⟨#[99, 101, 110, 111, 116, 97, 112, 104]⟩ : ByteArray)]) (by kernel_rfl) en69 (c69 w0 w _ _ hI (⟨#[99, 101, 110, 111, 116, 97, 112, 104]⟩ : ByteArray) _ hc138) ?_)
        rintro e w ⟨rfl, hl140, hI⟩
        refine ⟨_, rfl, ?_⟩
        refine ⟨fun _ _ => hI, ?_⟩
        refine GmT.r (i := 2) 2 (by kernel_rfl) (by kernel_rfl) (Yl.eqlA (k := .u8) (d := 36) (T := 55) (xs := y136) (ys := y139) (by kernel_rfl) Go.Proofs.Try.underlying55 (by kernel_rfl) Go.Proofs.Try.underlying5 ty5 hl137 hl140) hI ?_
        refine GmT.p' 3 37 (.bool (eqA y136 y139)) (by kernel_rfl) (by kernel_rfl) ?_
        by_cases hb141 : (eqA y136 y139) = true
        · rw [if_pos hb141] at h1
          refine GmT.keep [1, 2, 3, 4, 5, 6, 9, 37] (S' := [(1, .pointer (some ⟨b1, 0, none⟩)), (2, .pointer (some ⟨b2, 0, none⟩)), (3, .bool x5), (4, .pointer (some ⟨b29, 0, none⟩)), (5, .bool x32), (6, .slice A122 y121.length cp123), (9, .bool y131), (37, .bool true)]) (by (try simp only [hb141]); kernel_rfl) ?_
          refine GmT.p' 4 38 (.bool x5) (by kernel_rfl) (by kernel_rfl) ?_
          refine GmT.p' 5 39 (.bool x5) (by kernel_rfl) (by kernel_rfl) ?_
          refine GmT.p' 6 40 (.bool x5) (by kernel_rfl) (by kernel_rfl) ?_
          by_cases hb142 : x5 = true
          · rw [if_pos hb142] at h1
            refine GmT.keep [1, 2, 4, 5, 6, 9, 40] (S' := [(1, .pointer (some ⟨b1, 0, none⟩)), (2, .pointer (some ⟨b2, 0, none⟩)), (4, .pointer (some ⟨b29, 0, none⟩)), (5, .bool x32), (6, .slice A122 y121.length cp123), (9, .bool y131), (40, .bool true)]) (by (try simp only [hb142]); kernel_rfl) ?_
            refine GmT.p' 7 41 (.bool x32) (by kernel_rfl) (by kernel_rfl) ?_
            refine GmT.p' 8 42 (.bool x32) (by kernel_rfl) (by kernel_rfl) ?_
            refine GmT.p' 9 43 (.bool x32) (by kernel_rfl) (by kernel_rfl) ?_
            by_cases hb143 : x32 = true
            · rw [if_pos hb143] at h1
              refine GmT.keep [1, 2, 4, 6, 9, 43] (S' := [(1, .pointer (some ⟨b1, 0, none⟩)), (2, .pointer (some ⟨b2, 0, none⟩)), (4, .pointer (some ⟨b29, 0, none⟩)), (6, .slice A122 y121.length cp123), (9, .bool y131), (43, .bool true)]) (by (try simp only [hb143]); kernel_rfl) ?_
              refine GmT.r (i := 10) 2 (by kernel_rfl) (by kernel_rfl) (Yl.load (d := 44) (T := 55) (v := .agg (cA (Value.int .u8) x3).toArray) (by kernel_rfl) (ldBN ty55 (l := cA (Value.int .u8) x3) (o := 0) (cs := cA (Value.int .u8) x3) (pick3 _ _ _ _) ((cA_length _ _).trans hl4) (whole _ _ ((cA_length _ _).trans hl4)))) hI ?_
              refine GmT.r (i := 11) 2 (by kernel_rfl) (by kernel_rfl) (Yl.load (d := 45) (T := 55) (v := .agg (cA (Value.int .u8) x30).toArray) (by kernel_rfl) (ldBN ty55 (l := cA (Value.int .u8) x30) (o := 0) (cs := cA (Value.int .u8) x30) (pick2 _ _ _) ((cA_length _ _).trans hl31) (whole _ _ ((cA_length _ _).trans hl31)))) hI ?_
              refine GmT.r (i := 12) 2 (by kernel_rfl) (by kernel_rfl) (Yl.eqlA (k := .u8) (d := 46) (T := 55) (xs := x3) (ys := x30) (by kernel_rfl) Go.Proofs.Try.underlying55 (by kernel_rfl) Go.Proofs.Try.underlying5 ty5 hl4 hl31) hI ?_
              refine GmT.p' 13 47 (.bool (eqA x3 x30)) (by kernel_rfl) (by kernel_rfl) ?_
              refine GmT.p' 14 48 (.bool (eqA x3 x30)) (by kernel_rfl) (by kernel_rfl) ?_
              by_cases hb144 : (eqA x3 x30) = true
              · rw [if_pos hb144] at h1
                refine GmT.keep [1, 2, 6, 9, 48] (S' := [(1, .pointer (some ⟨b1, 0, none⟩)), (2, .pointer (some ⟨b2, 0, none⟩)), (6, .slice A122 y121.length cp123), (9, .bool y131), (48, .bool true)]) (by (try simp only [hb144]); kernel_rfl) ?_
                refine GmT.p' 15 49 (.slice A122 y121.length cp123) (by kernel_rfl) (by kernel_rfl) ?_
                refine GmT.p' 16 50 (.int .i64 (y121.length : Int)) (by kernel_rfl) (by kernel_rfl) ?_
                refine GmT.p' 17 51 (.bool ((y121.length : Int) == 2)) (by kernel_rfl) (by kernel_rfl) ?_
                refine GmT.p' 18 52 (.bool ((y121.length : Int) == 2)) (by kernel_rfl) (by kernel_rfl) ?_
                refine GmT.p' 19 53 (.bool ((y121.length : Int) == 2)) (by kernel_rfl) (by kernel_rfl) ?_
                by_cases hb145 : ((y121.length : Int) == 2) = true
                · rw [if_pos hb145] at h1
                  refine GmT.keep [1, 2, 6, 9, 53] (S' := [(1, .pointer (some ⟨b1, 0, none⟩)), (2, .pointer (some ⟨b2, 0, none⟩)), (6, .slice A122 y121.length cp123), (9, .bool y131), (53, .bool true)]) (by (try simp only [hb145]); kernel_rfl) ?_
                  refine GmT.p' 20 54 (.slice A122 y121.length cp123) (by kernel_rfl) (by kernel_rfl) ?_
                  obtain ⟨hg146, h1⟩ := guardS h1
                  obtain ⟨g147, hA148, hr149, hl150⟩ := ownS_get hI hg146.1 hg146.2
                  refine GmT.r (i := 21) 2 (by kernel_rfl) (by kernel_rfl) (Yl.indexSlice (d := 55) (T := 60) (cc := cp123) (k := .i64) (j := 1) (g := g147) (o := 0) (by kernel_rfl) Go.Proofs.Try.underlying60 ty55 hA148 hg146.1 hg146.2) hI ?_
                  refine GmT.r (i := 22) 2 (by kernel_rfl) (by kernel_rfl) (Yl.load (d := 56) (T := 55) (v := .agg (cA (Value.int .u8) (gt y121 1)).toArray) (by kernel_rfl) (ldRN ty55 (cs := cA (Value.int .u8) (gt y121 1)) 0 (fun w hC => hr149 w0 w _ hC) ((cA_length _ _).trans ((cA_length _ _).symm.trans hl150)) (whole _ _ ((cA_length _ _).trans ((cA_length _ _).symm.trans hl150))))) hI ?_
                  refine GmT.r (i := 23) 2 (by kernel_rfl) (by kernel_rfl) (Yl.load (d := 57) (T := 55) (v := .agg (cA (Value.int .u8) x3).toArray) (by kernel_rfl) (ldBN ty55 (l := cA (Value.int .u8) x3) (o := 0) (cs := cA (Value.int .u8) x3) (pick3 _ _ _ _) ((cA_length _ _).trans hl4) (whole _ _ ((cA_length _ _).trans hl4)))) hI ?_
                  refine GmT.r (i := 24) 2 (by kernel_rfl) (by kernel_rfl) (Yl.eqlA (k := .u8) (d := 58) (T := 55) (xs := gt y121 1) (ys := x3) (by kernel_rfl) Go.Proofs.Try.underlying55 (by kernel_rfl) Go.Proofs.Try.underlying5 ty5 ((cA_length _ _).symm.trans hl150) hl4) hI ?_
                  refine GmT.p' 25 59 (.bool (eqA (gt y121 1) x3)) (by kernel_rfl) (by kernel_rfl) ?_
                  refine GmT.p' 26 60 (.bool (eqA (gt y121 1) x3)) (by kernel_rfl) (by kernel_rfl) ?_
                  by_cases hb151 : (eqA (gt y121 1) x3) = true
                  · rw [if_pos hb151] at h1
                    refine GmT.keep [1, 2, 9, 60] (S' := [(1, .pointer (some ⟨b1, 0, none⟩)), (2, .pointer (some ⟨b2, 0, none⟩)), (9, .bool y131), (60, .bool true)]) (by (try simp only [hb151]); kernel_rfl) ?_
                    refine GmT.p' 27 61 (.bool y131) (by kernel_rfl) (by kernel_rfl) ?_
                    refine GmT.p' 28 62 (.bool (!y131)) (by kernel_rfl) (by kernel_rfl) ?_
                    refine GmT.p' 29 63 (.bool (!y131)) (by kernel_rfl) (by kernel_rfl) ?_
                    refine GmT.p' 30 64 (.bool (!y131)) (by kernel_rfl) (by kernel_rfl) ?_
                    by_cases hb152 : (!y131) = true
                    · rw [if_pos hb152] at h1
                      refine GmT.keep [1, 2, 64] (S' := [(1, .pointer (some ⟨b1, 0, none⟩)), (2, .pointer (some ⟨b2, 0, none⟩)), (64, .bool true)]) (by (try simp only [hb152]); kernel_rfl) ?_
                      refine GmT.r (i := 31) 2 (by kernel_rfl) (by kernel_rfl) (Yl.load (d := 65) (T := 65) (v := .agg (c_ApiEvent (ApiEvent.mk 7 0 (⟨#[]⟩ : ByteArray) 1 0 (List.replicate 32 (0 : Int)))).toArray) (by kernel_rfl) (ldBN ty65 (l := c_ApiEvent (ApiEvent.mk 7 0 (⟨#[]⟩ : ByteArray) 1 0 (List.replicate 32 (0 : Int)))) (o := 0) (cs := c_ApiEvent (ApiEvent.mk 7 0 (⟨#[]⟩ : ByteArray) 1 0 (List.replicate 32 (0 : Int)))) (pick4 _ _ _ _ _) (len_ApiEvent _ (by kernel_rfl)) (whole _ _ (len_ApiEvent _ (by kernel_rfl))))) hI ?_
                      refine GmT.o (i := 32) (by kernel_rfl) (Does.buildSliceAll (en := c_ApiEvent) (d := 66) (n := 1) (T := 56) (ps := [(0, .agg (c_ApiEvent (ApiEvent.mk 7 0 (⟨#[]⟩ : ByteArray) 1 0 (List.replicate 32 (0 : Int)))).toArray)]) (fun y => .agg (c_ApiEvent y).toArray) (fun _ => rfl) ([(ApiEvent.mk 7 0 (⟨#[]⟩ : ByteArray) 1 0 (List.replicate 32 (0 : Int)))] : List ApiEvent) (by kernel_rfl) rfl Go.Proofs.Try.underlying56 ty65 rfl (by kernel_rfl) (by kernel_rfl) (by decide +kernel) (List.forall_mem_cons.2 ⟨(len_ApiEvent _ (by kernel_rfl)), (fun _ h => by cases h)⟩) hI ?_)
                      intro b153 w hI
                      have hC := hI
                      have hC := hC.drop
                      refine ⟨fun _ _ => hC, ?_⟩
                      obtain ⟨Z154, hle155, hr156, hI⟩ := ownS_freeze hI
                      obtain ⟨y158, hc157, h1⟩ := bindS h1
                      try dsimp only at h1
                      refine GmT.o (i := 33) (by kernel_rfl) (Does.call (d := some 67) (n := 33) (vs := [.slice (some ⟨b153, 0, none⟩) (([(ApiEvent.mk 7 0 (⟨#[]⟩ : ByteArray) 1 0 (List.replicate 32 (0 : Int)))] : List ApiEvent).length) 1, .int .i64 0]) (by kernel_rfl) en33 (c33 w0 w _ _ hI (some ⟨b153, 0, none⟩) 1 ([(ApiEvent.mk 7 0 (⟨#[]⟩ : ByteArray) 1 0 (List.replicate 32 (0 : Int)))] : List ApiEvent) hr156 0 _ hc157) ?_)
                      rintro e w ⟨rfl, hI⟩
                      refine ⟨_, rfl, ?_⟩
                      have hC := hI
                      have hC := hC.weaken hle155
                      refine ⟨fun _ _ => hC, ?_⟩
                      refine GmT.p' 34 68 (.bool (seq y158 (⟨#[99, 101, 110, 111, 116, 97, 112, 104]⟩ : ByteArray))) (by kernel_rfl) (by kernel_rfl) ?_
                      refine GmT.p' 35 69 (.bool (seq y158 (⟨#[99, 101, 110, 111, 116, 97, 112, 104]⟩ : ByteArray))) (by kernel_rfl) (by kernel_rfl) ?_
                      refine GmT.p' 36 70 (.bool (seq y158 (⟨#[99, 101, 110, 111, 116, 97, 112, 104]⟩ : ByteArray))) (by kernel_rfl) (by kernel_rfl) ?_
                      by_cases hb159 : (seq y158 (⟨#[99, 101, 110, 111, 116, 97, 112, 104]⟩ : ByteArray)) = true
                      · rw [if_pos hb159] at h1
                        refine GmT.keep [1, 2, 70] (S' := [(1, .pointer (some ⟨b1, 0, none⟩)), (2, .pointer (some ⟨b2, 0, none⟩)), (70, .bool true)]) (by (try simp only [hb159]); kernel_rfl) ?_
                        have hC := hI
                        have hC := hC.weaken hle155
                        refine GmT.r (i := 37) 2 (by kernel_rfl) (by kernel_rfl) (Yl.load (d := 71) (T := 65) (v := .agg (c_ApiEvent (ApiEvent.mk 7 0 (⟨#[]⟩ : ByteArray) 1 0 (List.replicate 32 (0 : Int)))).toArray) (by kernel_rfl) (ldBN ty65 (l := c_ApiEvent (ApiEvent.mk 7 0 (⟨#[]⟩ : ByteArray) 1 0 (List.replicate 32 (0 : Int)))) (o := 0) (cs := c_ApiEvent (ApiEvent.mk 7 0 (⟨#[]⟩ : ByteArray) 1 0 (List.replicate 32 (0 : Int)))) (pick4 _ _ _ _ _) (len_ApiEvent _ (by kernel_rfl)) (whole _ _ (len_ApiEvent _ (by kernel_rfl))))) hC ?_
                        refine GmT.o (i := 38) (by kernel_rfl) (Does.buildSliceAll (en := c_ApiEvent) (d := 72) (n := 1) (T := 56) (ps := [(0, .agg (c_ApiEvent (ApiEvent.mk 7 0 (⟨#[]⟩ : ByteArray) 1 0 (List.replicate 32 (0 : Int)))).toArray)]) (fun y => .agg (c_ApiEvent y).toArray) (fun _ => rfl) ([(ApiEvent.mk 7 0 (⟨#[]⟩ : ByteArray) 1 0 (List.replicate 32 (0 : Int)))] : List ApiEvent) (by kernel_rfl) rfl Go.Proofs.Try.underlying56 ty65 rfl (by kernel_rfl) (by kernel_rfl) (by decide +kernel) (List.forall_mem_cons.2 ⟨(len_ApiEvent _ (by kernel_rfl)), (fun _ h => by cases h)⟩) hI ?_)
                        intro b160 w hI
                        have hC := hI
                        have hC := hC.drop
                        have hC := hC.weaken hle155
                        refine ⟨fun _ _ => hC, ?_⟩
                        obtain ⟨Z161, hle162, hr163, hI⟩ := ownS_freeze hI
                        obtain ⟨y165, hc164, h1⟩ := bindS h1
                        try dsimp only at h1
                        refine GmT.o (i := 39) (by kernel_rfl) (Does.call (d := some 73) (n := 33) (vs := [.slice (some ⟨b160, 0, none⟩) (([(ApiEvent.mk 7 0 (⟨#[]⟩ : ByteArray) 1 0 (List.replicate 32 (0 : Int)))] : List ApiEvent).length) 1, .int .i64 1]) (by kernel_rfl) en33 (c33 w0 w _ _ hI (some ⟨b160, 0, none⟩) 1 ([(ApiEvent.mk 7 0 (⟨#[]⟩ : ByteArray) 1 0 (List.replicate 32 (0 : Int)))] : List ApiEvent) hr163 1 _ hc164) ?_)
                        rintro e w ⟨rfl, hI⟩
                        refine ⟨_, rfl, ?_⟩
                        have hC := hI
                        have hC := hC.weaken (Hp.le_trans hle155 hle162)
                        refine ⟨fun _ _ => hC, ?_⟩
                        refine GmT.p' 40 74 (.int .i64 (y165.size : Int)) (by kernel_rfl) (by kernel_rfl) ?_
                        refine GmT.p' 41 75 (.bool ((y165.size : Int) == 34)) (by kernel_rfl) (by kernel_rfl) ?_
                        refine GmT.p' 42 76 (.bool ((y165.size : Int) == 34)) (by kernel_rfl) (by kernel_rfl) ?_
                        refine GmT.p' 43 77 (.bool ((y165.size : Int) == 34)) (by kernel_rfl) (by kernel_rfl) ?_
                        by_cases hb166 : ((y165.size : Int) == 34) = true
                        · rw [if_pos hb166] at h1
                          refine GmT.keep [2, 77] (S' := [(2, .pointer (some ⟨b2, 0, none⟩)), (77, .bool true)]) (by (try simp only [hb166]); kernel_rfl) ?_
                          have hC := hI
                          have hC := hC.weaken (Hp.le_trans hle155 hle162)
                          refine GmT.r (i := 44) 2 (by kernel_rfl) (by kernel_rfl) (Yl.load (d := 78) (T := 55) (v := .agg (cA (Value.int .u8) x3).toArray) (by kernel_rfl) (ldBN ty55 (l := cA (Value.int .u8) x3) (o := 0) (cs := cA (Value.int .u8) x3) (pick3 _ _ _ _) ((cA_length _ _).trans hl4) (whole _ _ ((cA_length _ _).trans hl4)))) hC ?_
                          obtain ⟨y168, hc167, h1⟩ := bindS h1
                          try dsimp only at h1
                          refine GmT.o (i := 45) (by kernel_rfl) (Does.call (d := some 79) (n := 67) (vs := []) (by kernel_rfl) en67 (c67 w0 w _ _ hI _ hc167) ?_)
                          rintro e w ⟨rfl, hl169, hI⟩
                          refine ⟨_, rfl, ?_⟩
                          have hC := hI
                          have hC := hC.weaken (Hp.le_trans hle155 hle162)
                          refine ⟨fun _ _ => hC, ?_⟩
                          have hC := hI
                          have hC := hC.weaken (Hp.le_trans hle155 hle162)
                          refine GmT.r (i := 46) 2 (by kernel_rfl) (by kernel_rfl) (Yl.neqA (k := .u8) (d := 80) (T := 55) (xs := x3) (ys := y168) (by kernel_rfl) Go.Proofs.Try.underlying55 (by kernel_rfl) Go.Proofs.Try.underlying5 ty5 hl4 hl169) hC ?_
                          refine GmT.p' 47 81 (.bool (!(eqA x3 y168))) (by kernel_rfl) (by kernel_rfl) ?_
                          refine GmT.p' 48 0 (.bool (!(eqA x3 y168))) (by kernel_rfl) (by kernel_rfl) ?_
                          refine GmT.done (by kernel_rfl) ?_
                          have hI := hI.drop
                          have hI := hI.drop
                          have hI := hI.drop
                          have hI := hI.drop
                          have e := someS h1
                          subst e
                          exact Qn.thenJ fun a ha => ⟨!(eqA x3 y168), Z161, rfl, ha.keep [0] (by kernel_rfl), hI, (Hp.le_trans hle155 hle162)⟩
                        · rw [if_neg hb166] at h1
                          have hb166 : ((y165.size : Int) == 34) = false := by simpa using hb166
                          refine GmT.keep [2, 77] (S' := [(2, .pointer (some ⟨b2, 0, none⟩)), (77, .bool false)]) (by (try simp only [hb166]); kernel_rfl) ?_
                          refine GmT.p' 44 78 (undef) (by kernel_rfl) (by kernel_rfl) ?_
                          refine GmT.p' 45 79 (undef) (by kernel_rfl) (by kernel_rfl) ?_
                          refine GmT.p' 46 80 (undef) (by kernel_rfl) (by kernel_rfl) ?_
                          refine GmT.p' 47 81 (.bool false) (by kernel_rfl) (by kernel_rfl) ?_
                          refine GmT.p' 48 0 (.bool false) (by kernel_rfl) (by kernel_rfl) ?_
                          refine GmT.done (by kernel_rfl) ?_
                          have hI := hI.drop
                          have hI := hI.drop
                          have hI := hI.drop
                          have hI := hI.drop
                          have e := someS h1
                          subst e
                          exact Qn.thenJ fun a ha => ⟨false, Z161, rfl, ha.keep [0] (by kernel_rfl), hI, (Hp.le_trans hle155 hle162)⟩
                      · rw [if_neg hb159] at h1
                        have hb159 : (seq y158 (⟨#[99, 101, 110, 111, 116, 97, 112, 104]⟩ : ByteArray)) = false := by simpa using hb159
                        refine GmT.keep [1, 2, 70] (S' := [(1, .pointer (some ⟨b1, 0, none⟩)), (2, .pointer (some ⟨b2, 0, none⟩)), (70, .bool false)]) (by (try simp only [hb159]); kernel_rfl) ?_
                        refine GmT.p' 37 71 (undef) (by kernel_rfl) (by kernel_rfl) ?_
                        refine GmT.p' 38 72 (undef) (by kernel_rfl) (by kernel_rfl) ?_
                        refine GmT.p' 39 73 (undef) (by kernel_rfl) (by kernel_rfl) ?_
                        refine GmT.p' 40 74 (undef) (by kernel_rfl) (by kernel_rfl) ?_
                        refine GmT.p' 41 75 (undef) (by kernel_rfl) (by kernel_rfl) ?_
                        refine GmT.p' 42 76 (.bool false) (by kernel_rfl) (by kernel_rfl) ?_
                        refine GmT.p' 43 77 (.bool false) (by kernel_rfl) (by kernel_rfl) ?_
                        refine GmT.p' 44 78 (undef) (by kernel_rfl) (by kernel_rfl) ?_
                        refine GmT.p' 45 79 (undef) (by kernel_rfl) (by kernel_rfl) ?_
                        refine GmT.p' 46 80 (undef) (by kernel_rfl) (by kernel_rfl) ?_
                        refine GmT.p' 47 81 (.bool false) (by kernel_rfl) (by kernel_rfl) ?_
                        refine GmT.p' 48 0 (.bool false) (by kernel_rfl) (by kernel_rfl) ?_
                        refine GmT.done (by kernel_rfl) ?_
                        have hI := hI.drop
                        have hI := hI.drop
                        have hI := hI.drop
                        have hI := hI.drop
                        have e := someS h1
                        subst e
                        exact Qn.thenJ fun a ha => ⟨false, Z154, rfl, ha.keep [0] (by kernel_rfl), hI, hle155⟩
                    · rw [if_neg hb152] at h1
                      have hb152 : (!y131) = false := by simpa using hb152
                      refine GmT.keep [1, 2, 64] (S' := [(1, .pointer (some ⟨b1, 0, none⟩)), (2, .pointer (some ⟨b2, 0, none⟩)), (64, .bool false)]) (by (try simp only [hb152]); kernel_rfl) ?_
                      refine GmT.p' 31 65 (undef) (by kernel_rfl) (by kernel_rfl) ?_
                      refine GmT.p' 32 66 (undef) (by kernel_rfl) (by kernel_rfl) ?_
                      refine GmT.p' 33 67 (undef) (by kernel_rfl) (by kernel_rfl) ?_
                      refine GmT.p' 34 68 (undef) (by kernel_rfl) (by kernel_rfl) ?_
                      refine GmT.p' 35 69 (.bool false) (by kernel_rfl) (by kernel_rfl) ?_
                      refine GmT.p' 36 70 (.bool false) (by kernel_rfl) (by kernel_rfl) ?_
                      refine GmT.p' 37 71 (undef) (by kernel_rfl) (by kernel_rfl) ?_
                      refine GmT.p' 38 72 (undef) (by kernel_rfl) (by kernel_rfl) ?_
                      refine GmT.p' 39 73 (undef) (by kernel_rfl) (by kernel_rfl) ?_
                      refine GmT.p' 40 74 (undef) (by kernel_rfl) (by kernel_rfl) ?_
                      refine GmT.p' 41 75 (undef) (by kernel_rfl) (by kernel_rfl) ?_
                      refine GmT.p' 42 76 (.bool false) (by kernel_rfl) (by kernel_rfl) ?_
                      refine GmT.p' 43 77 (.bool false) (by kernel_rfl) (by kernel_rfl) ?_
                      refine GmT.p' 44 78 (undef) (by kernel_rfl) (by kernel_rfl) ?_
                      refine GmT.p' 45 79 (undef) (by kernel_rfl) (by kernel_rfl) ?_
                      refine GmT.p' 46 80 (undef) (by kernel_rfl) (by kernel_rfl) ?_
                      refine GmT.p' 47 81 (.bool false) (by kernel_rfl) (by kernel_rfl) ?_
                      refine GmT.p' 48 0 (.bool false) (by kernel_rfl) (by kernel_rfl) ?_
                      refine GmT.done (by kernel_rfl) ?_
                      have hI := hI.drop
                      have hI := hI.drop
                      have hI := hI.drop
                      have hI := hI.drop
                      have e := someS h1
                      subst e
                      exact Qn.thenJ fun a ha => ⟨false, Z125, rfl, ha.keep [0] (by kernel_rfl), hI, (Hp.le_refl _)⟩
                  · rw [if_neg hb151] at h1
                    have hb151 : (eqA (gt y121 1) x3) = false := by simpa using hb151
                    refine GmT.keep [1, 2, 9, 60] (S' := [(1, .pointer (some ⟨b1, 0, none⟩)), (2, .pointer (some ⟨b2, 0, none⟩)), (9, .bool y131), (60, .bool false)]) (by (try simp only [hb151]); kernel_rfl) ?_
                    refine GmT.p' 27 61 (undef) (by kernel_rfl) (by kernel_rfl) ?_
                    refine GmT.p' 28 62 (undef) (by kernel_rfl) (by kernel_rfl) ?_
                    refine GmT.p' 29 63 (.bool false) (by kernel_rfl) (by kernel_rfl) ?_
                    refine GmT.p' 30 64 (.bool false) (by kernel_rfl) (by kernel_rfl) ?_
                    refine GmT.p' 31 65 (undef) (by kernel_rfl) (by kernel_rfl) ?_
                    refine GmT.p' 32 66 (undef) (by kernel_rfl) (by kernel_rfl) ?_
                    refine GmT.p' 33 67 (undef) (by kernel_rfl) (by kernel_rfl) ?_
                    refine GmT.p' 34 68 (undef) (by kernel_rfl) (by kernel_rfl) ?_
                    refine GmT.p' 35 69 (.bool false) (by kernel_rfl) (by kernel_rfl) ?_
                    refine GmT.p' 36 70 (.bool false) (by kernel_rfl) (by kernel_rfl) ?_
                    refine GmT.p' 37 71 (undef) (by kernel_rfl) (by kernel_rfl) ?_
                    refine GmT.p' 38 72 (undef) (by kernel_rfl) (by kernel_rfl) ?_
                    refine GmT.p' 39 73 (undef) (by kernel_rfl) (by kernel_rfl) ?_
                    refine GmT.p' 40 74 (undef) (by kernel_rfl) (by kernel_rfl) ?_
                    refine GmT.p' 41 75 (undef) (by kernel_rfl) (by kernel_rfl) ?_
                    refine GmT.p' 42 76 (.bool false) (by kernel_rfl) (by kernel_rfl) ?_
                    refine GmT.p' 43 77 (.bool false) (by kernel_rfl) (by kernel_rfl) ?_
                    refine GmT.p' 44 78 (undef) (by kernel_rfl) (by kernel_rfl) ?_
                    refine GmT.p' 45 79 (undef) (by kernel_rfl) (by kernel_rfl) ?_
                    refine GmT.p' 46 80 (undef) (by kernel_rfl) (by kernel_rfl) ?_
                    refine GmT.p' 47 81 (.bool false) (by kernel_rfl) (by kernel_rfl) ?_
                    refine GmT.p' 48 0 (.bool false) (by kernel_rfl) (by kernel_rfl) ?_
                    refine GmT.done (by kernel_rfl) ?_
                    have hI := hI.drop
                    have hI := hI.drop
                    have hI := hI.drop
                    have hI := hI.drop
                    have e := someS h1
                    subst e
                    exact Qn.thenJ fun a ha => ⟨false, Z125, rfl, ha.keep [0] (by kernel_rfl), hI, (Hp.le_refl _)⟩
                · rw [if_neg hb145] at h1
                  have hb145 : ((y121.length : Int) == 2) = false := by simpa using hb145
                  refine GmT.keep [1, 2, 6, 9, 53] (S' := [(1, .pointer (some ⟨b1, 0, none⟩)), (2, .pointer (some ⟨b2, 0, none⟩)), (6, .slice A122 y121.length cp123), (9, .bool y131), (53, .bool false)]) (by (try simp only [hb145]); kernel_rfl) ?_
                  refine GmT.p' 20 54 (undef) (by kernel_rfl) (by kernel_rfl) ?_
                  refine GmT.p' 21 55 (undef) (by kernel_rfl) (by kernel_rfl) ?_
                  refine GmT.p' 22 56 (undef) (by kernel_rfl) (by kernel_rfl) ?_
                  refine GmT.p' 23 57 (undef) (by kernel_rfl) (by kernel_rfl) ?_
                  refine GmT.p' 24 58 (undef) (by kernel_rfl) (by kernel_rfl) ?_
                  refine GmT.p' 25 59 (.bool false) (by kernel_rfl) (by kernel_rfl) ?_
                  refine GmT.p' 26 60 (.bool false) (by kernel_rfl) (by kernel_rfl) ?_
                  refine GmT.p' 27 61 (undef) (by kernel_rfl) (by kernel_rfl) ?_
                  refine GmT.p' 28 62 (undef) (by kernel_rfl) (by kernel_rfl) ?_
                  refine GmT.p' 29 63 (.bool false) (by kernel_rfl) (by kernel_rfl) ?_
                  refine GmT.p' 30 64 (.bool false) (by kernel_rfl) (by kernel_rfl) ?_
                  refine GmT.p' 31 65 (undef) (by kernel_rfl) (by kernel_rfl) ?_
                  refine GmT.p' 32 66 (undef) (by kernel_rfl) (by kernel_rfl) ?_
                  refine GmT.p' 33 67 (undef) (by kernel_rfl) (by kernel_rfl) ?_
                  refine GmT.p' 34 68 (undef) (by kernel_rfl) (by kernel_rfl) ?_
                  refine GmT.p' 35 69 (.bool false) (by kernel_rfl) (by kernel_rfl) ?_
                  refine GmT.p' 36 70 (.bool false) (by kernel_rfl) (by kernel_rfl) ?_
                  refine GmT.p' 37 71 (undef) (by kernel_rfl) (by kernel_rfl) ?_
                  refine GmT.p' 38 72 (undef) (by kernel_rfl) (by kernel_rfl) ?_
                  refine GmT.p' 39 73 (undef) (by kernel_rfl) (by kernel_rfl) ?_
                  refine GmT.p' 40 74 (undef) (by kernel_rfl) (by kernel_rfl) ?_
                  refine GmT.p' 41 75 (undef) (by kernel_rfl) (by kernel_rfl) ?_
                  refine GmT.p' 42 76 (.bool false) (by kernel_rfl) (by kernel_rfl) ?_
                  refine GmT.p' 43 77 (.bool false) (by kernel_rfl) (by kernel_rfl) ?_
                  refine GmT.p' 44 78 (undef) (by kernel_rfl) (by kernel_rfl) ?_
                  refine GmT.p' 45 79 (undef) (by kernel_rfl) (by kernel_rfl) ?_
                  refine GmT.p' 46 80 (undef) (by kernel_rfl) (by kernel_rfl) ?_
                  refine GmT.p' 47 81 (.bool false) (by kernel_rfl) (by kernel_rfl) ?_
                  refine GmT.p' 48 0 (.bool false) (by kernel_rfl) (by kernel_rfl) ?_
                  refine GmT.done (by kernel_rfl) ?_
                  have hI := hI.drop
                  have hI := hI.drop
                  have hI := hI.drop
                  have hI := hI.drop
                  have e := someS h1
                  subst e
                  exact Qn.thenJ fun a ha => ⟨false, Z125, rfl, ha.keep [0] (by kernel_rfl), hI, (Hp.le_refl _)⟩
              · rw [if_neg hb144] at h1
                have hb144 : (eqA x3 x30) = false := by simpa using hb144
                refine GmT.keep [1, 2, 6, 9, 48] (S' := [(1, .pointer (some ⟨b1, 0, none⟩)), (2, .pointer (some ⟨b2, 0, none⟩)), (6, .slice A122 y121.length cp123), (9, .bool y131), (48, .bool false)]) (by (try simp only [hb144]); kernel_rfl) ?_
                refine GmT.p' 15 49 (undef) (by kernel_rfl) (by kernel_rfl) ?_
                refine GmT.p' 16 50 (undef) (by kernel_rfl) (by kernel_rfl) ?_
                refine GmT.p' 17 51 (undef) (by kernel_rfl) (by kernel_rfl) ?_
                refine GmT.p' 18 52 (.bool false) (by kernel_rfl) (by kernel_rfl) ?_
                refine GmT.p' 19 53 (.bool false) (by kernel_rfl) (by kernel_rfl) ?_
                refine GmT.p' 20 54 (undef) (by kernel_rfl) (by kernel_rfl) ?_
                refine GmT.p' 21 55 (undef) (by kernel_rfl) (by kernel_rfl) ?_
                refine GmT.p' 22 56 (undef) (by kernel_rfl) (by kernel_rfl) ?_
                refine GmT.p' 23 57 (undef) (by kernel_rfl) (by kernel_rfl) ?_
                refine GmT.p' 24 58 (undef) (by kernel_rfl) (by kernel_rfl) ?_
                refine GmT.p' 25 59 (.bool false) (by kernel_rfl) (by kernel_rfl) ?_
                refine GmT.p' 26 60 (.bool false) (by kernel_rfl) (by kernel_rfl) ?_
                refine GmT.p' 27 61 (undef) (by kernel_rfl) (by kernel_rfl) ?_
                refine GmT.p' 28 62 (undef) (by kernel_rfl) (by kernel_rfl) ?_
                refine GmT.p' 29 63 (.bool false) (by kernel_rfl) (by kernel_rfl) ?_
                refine GmT.p' 30 64 (.bool false) (by kernel_rfl) (by kernel_rfl) ?_
                refine GmT.p' 31 65 (undef) (by kernel_rfl) (by kernel_rfl) ?_
                refine GmT.p' 32 66 (undef) (by kernel_rfl) (by kernel_rfl) ?_
                refine GmT.p' 33 67 (undef) (by kernel_rfl) (by kernel_rfl) ?_
                refine GmT.p' 34 68 (undef) (by kernel_rfl) (by kernel_rfl) ?_
                refine GmT.p' 35 69 (.bool false) (by kernel_rfl) (by kernel_rfl) ?_
                refine GmT.p' 36 70 (.bool false) (by kernel_rfl) (by kernel_rfl) ?_
                refine GmT.p' 37 71 (undef) (by kernel_rfl) (by kernel_rfl) ?_
                refine GmT.p' 38 72 (undef) (by kernel_rfl) (by kernel_rfl) ?_
                refine GmT.p' 39 73 (undef) (by kernel_rfl) (by kernel_rfl) ?_
                refine GmT.p' 40 74 (undef) (by kernel_rfl) (by kernel_rfl) ?_
                refine GmT.p' 41 75 (undef) (by kernel_rfl) (by kernel_rfl) ?_
                refine GmT.p' 42 76 (.bool false) (by kernel_rfl) (by kernel_rfl) ?_
                refine GmT.p' 43 77 (.bool false) (by kernel_rfl) (by kernel_rfl) ?_
                refine GmT.p' 44 78 (undef) (by kernel_rfl) (by kernel_rfl) ?_
                refine GmT.p' 45 79 (undef) (by kernel_rfl) (by kernel_rfl) ?_
                refine GmT.p' 46 80 (undef) (by kernel_rfl) (by kernel_rfl) ?_
                refine GmT.p' 47 81 (.bool false) (by kernel_rfl) (by kernel_rfl) ?_
                refine GmT.p' 48 0 (.bool false) (by kernel_rfl) (by kernel_rfl) ?_
                refine GmT.done (by kernel_rfl) ?_
                have hI := hI.drop
                have hI := hI.drop
                have hI := hI.drop
                have hI := hI.drop
                have e := someS h1
                subst e
                exact Qn.thenJ fun a ha => ⟨false, Z125, rfl, ha.keep [0] (by kernel_rfl), hI, (Hp.le_refl _)⟩
            · rw [if_neg hb143] at h1
              have hb143 : x32 = false := by simpa using hb143
              refine GmT.keep [1, 2, 4, 6, 9, 43] (S' := [(1, .pointer (some ⟨b1, 0, none⟩)), (2, .pointer (some ⟨b2, 0, none⟩)), (4, .pointer (some ⟨b29, 0, none⟩)), (6, .slice A122 y121.length cp123), (9, .bool y131), (43, .bool false)]) (by (try simp only [hb143]); kernel_rfl) ?_
              refine GmT.p' 10 44 (undef) (by kernel_rfl) (by kernel_rfl) ?_
              refine GmT.p' 11 45 (undef) (by kernel_rfl) (by kernel_rfl) ?_
              refine GmT.p' 12 46 (undef) (by kernel_rfl) (by kernel_rfl) ?_
              refine GmT.p' 13 47 (.bool false) (by kernel_rfl) (by kernel_rfl) ?_
              refine GmT.p' 14 48 (.bool false) (by kernel_rfl) (by kernel_rfl) ?_
              refine GmT.p' 15 49 (undef) (by kernel_rfl) (by kernel_rfl) ?_
              refine GmT.p' 16 50 (undef) (by kernel_rfl) (by kernel_rfl) ?_
              refine GmT.p' 17 51 (undef) (by kernel_rfl) (by kernel_rfl) ?_
              refine GmT.p' 18 52 (.bool false) (by kernel_rfl) (by kernel_rfl) ?_
              refine GmT.p' 19 53 (.bool false) (by kernel_rfl) (by kernel_rfl) ?_
              refine GmT.p' 20 54 (undef) (by kernel_rfl) (by kernel_rfl) ?_
              refine GmT.p' 21 55 (undef) (by kernel_rfl) (by kernel_rfl) ?_
              refine GmT.p' 22 56 (undef) (by kernel_rfl) (by kernel_rfl) ?_
              refine GmT.p' 23 57 (undef) (by kernel_rfl) (by kernel_rfl) ?_
              refine GmT.p' 24 58 (undef) (by kernel_rfl) (by kernel_rfl) ?_
              refine GmT.p' 25 59 (.bool false) (by kernel_rfl) (by kernel_rfl) ?_
              refine GmT.p' 26 60 (.bool false) (by kernel_rfl) (by kernel_rfl) ?_
              refine GmT.p' 27 61 (undef) (by kernel_rfl) (by kernel_rfl) ?_
              refine GmT.p' 28 62 (undef) (by kernel_rfl) (by kernel_rfl) ?_
              refine GmT.p' 29 63 (.bool false) (by kernel_rfl) (by kernel_rfl) ?_
              refine GmT.p' 30 64 (.bool false) (by kernel_rfl) (by kernel_rfl) ?_
              refine GmT.p' 31 65 (undef) (by kernel_rfl) (by kernel_rfl) ?_
              refine GmT.p' 32 66 (undef) (by kernel_rfl) (by kernel_rfl) ?_
              refine GmT.p' 33 67 (undef) (by kernel_rfl) (by kernel_rfl) ?_
              refine GmT.p' 34 68 (undef) (by kernel_rfl) (by kernel_rfl) ?_
              refine GmT.p' 35 69 (.bool false) (by kernel_rfl) (by kernel_rfl) ?_
              refine GmT.p' 36 70 (.bool false) (by kernel_rfl) (by kernel_rfl) ?_
              refine GmT.p' 37 71 (undef) (by kernel_rfl) (by kernel_rfl) ?_
              refine GmT.p' 38 72 (undef) (by kernel_rfl) (by kernel_rfl) ?_
              refine GmT.p' 39 73 (undef) (by kernel_rfl) (by kernel_rfl) ?_
              refine GmT.p' 40 74 (undef) (by kernel_rfl) (by kernel_rfl) ?_
              refine GmT.p' 41 75 (undef) (by kernel_rfl) (by kernel_rfl) ?_
              refine GmT.p' 42 76 (.bool false) (by kernel_rfl) (by kernel_rfl) ?_
              refine GmT.p' 43 77 (.bool false) (by kernel_rfl) (by kernel_rfl) ?_
              refine GmT.p' 44 78 (undef) (by kernel_rfl) (by kernel_rfl) ?_
              refine GmT.p' 45 79 (undef) (by kernel_rfl) (by kernel_rfl) ?_
              refine GmT.p' 46 80 (undef) (by kernel_rfl) (by kernel_rfl) ?_
              refine GmT.p' 47 81 (.bool false) (by kernel_rfl) (by kernel_rfl) ?_
              refine GmT.p' 48 0 (.bool false) (by kernel_rfl) (by kernel_rfl) ?_
              refine GmT.done (by kernel_rfl) ?_
              have hI := hI.drop
              have hI := hI.drop
              have hI := hI.drop
              have hI := hI.drop
              have e := someS h1
              subst e
              exact Qn.thenJ fun a ha => ⟨false, Z125, rfl, ha.keep [0] (by kernel_rfl), hI, (Hp.le_refl _)⟩
          · rw [if_neg hb142] at h1
            have hb142 : x5 = false := by simpa using hb142
            refine GmT.keep [1, 2, 4, 5, 6, 9, 40] (S' := [(1, .pointer (some ⟨b1, 0, none⟩)), (2, .pointer (some ⟨b2, 0, none⟩)), (4, .pointer (some ⟨b29, 0, none⟩)), (5, .bool x32), (6, .slice A122 y121.length cp123), (9, .bool y131), (40, .bool false)]) (by (try simp only [hb142]); kernel_rfl) ?_
            refine GmT.p' 7 41 (undef) (by kernel_rfl) (by kernel_rfl) ?_
            refine GmT.p' 8 42 (.bool false) (by kernel_rfl) (by kernel_rfl) ?_
            refine GmT.p' 9 43 (.bool false) (by kernel_rfl) (by kernel_rfl) ?_
            refine GmT.p' 10 44 (undef) (by kernel_rfl) (by kernel_rfl) ?_
            refine GmT.p' 11 45 (undef) (by kernel_rfl) (by kernel_rfl) ?_
            refine GmT.p' 12 46 (undef) (by kernel_rfl) (by kernel_rfl) ?_
            refine GmT.p' 13 47 (.bool false) (by kernel_rfl) (by kernel_rfl) ?_
            refine GmT.p' 14 48 (.bool false) (by kernel_rfl) (by kernel_rfl) ?_
            refine GmT.p' 15 49 (undef) (by kernel_rfl) (by kernel_rfl) ?_
            refine GmT.p' 16 50 (undef) (by kernel_rfl) (by kernel_rfl) ?_
            refine GmT.p' 17 51 (undef) (by kernel_rfl) (by kernel_rfl) ?_
            refine GmT.p' 18 52 (.bool false) (by kernel_rfl) (by kernel_rfl) ?_
            refine GmT.p' 19 53 (.bool false) (by kernel_rfl) (by kernel_rfl) ?_
            refine GmT.p' 20 54 (undef) (by kernel_rfl) (by kernel_rfl) ?_
            refine GmT.p' 21 55 (undef) (by kernel_rfl) (by kernel_rfl) ?_
            refine GmT.p' 22 56 (undef) (by kernel_rfl) (by kernel_rfl) ?_
            refine GmT.p' 23 57 (undef) (by kernel_rfl) (by kernel_rfl) ?_
            refine GmT.p' 24 58 (undef) (by kernel_rfl) (by kernel_rfl) ?_
            refine GmT.p' 25 59 (.bool false) (by kernel_rfl) (by kernel_rfl) ?_
            refine GmT.p' 26 60 (.bool false) (by kernel_rfl) (by kernel_rfl) ?_
            refine GmT.p' 27 61 (undef) (by kernel_rfl) (by kernel_rfl) ?_
            refine GmT.p' 28 62 (undef) (by kernel_rfl) (by kernel_rfl) ?_
            refine GmT.p' 29 63 (.bool false) (by kernel_rfl) (by kernel_rfl) ?_
            refine GmT.p' 30 64 (.bool false) (by kernel_rfl) (by kernel_rfl) ?_
            refine GmT.p' 31 65 (undef) (by kernel_rfl) (by kernel_rfl) ?_
            refine GmT.p' 32 66 (undef) (by kernel_rfl) (by kernel_rfl) ?_
            refine GmT.p' 33 67 (undef) (by kernel_rfl) (by kernel_rfl) ?_
            refine GmT.p' 34 68 (undef) (by kernel_rfl) (by kernel_rfl) ?_
            refine GmT.p' 35 69 (.bool false) (by kernel_rfl) (by kernel_rfl) ?_
            refine GmT.p' 36 70 (.bool false) (by kernel_rfl) (by kernel_rfl) ?_
            refine GmT.p' 37 71 (undef) (by kernel_rfl) (by kernel_rfl) ?_
            refine GmT.p' 38 72 (undef) (by kernel_rfl) (by kernel_rfl) ?_
            refine GmT.p' 39 73 (undef) (by kernel_rfl) (by kernel_rfl) ?_
            refine GmT.p' 40 74 (undef) (by kernel_rfl) (by kernel_rfl) ?_
            refine GmT.p' 41 75 (undef) (by kernel_rfl) (by kernel_rfl) ?_
            refine GmT.p' 42 76 (.bool false) (by kernel_rfl) (by kernel_rfl) ?_
            refine GmT.p' 43 77 (.bool false) (by kernel_rfl) (by kernel_rfl) ?_
            refine GmT.p' 44 78 (undef) (by kernel_rfl) (by kernel_rfl) ?_
            refine GmT.p' 45 79 (undef) (by kernel_rfl) (by kernel_rfl) ?_
            refine GmT.p' 46 80 (undef) (by kernel_rfl) (by kernel_rfl) ?_
            refine GmT.p' 47 81 (.bool false) (by kernel_rfl) (by kernel_rfl) ?_
            refine GmT.p' 48 0 (.bool false) (by kernel_rfl) (by kernel_rfl) ?_
            refine GmT.done (by kernel_rfl) ?_
            have hI := hI.drop
            have hI := hI.drop
            have hI := hI.drop
            have hI := hI.drop
            have e := someS h1
            subst e
            exact Qn.thenJ fun a ha => ⟨false, Z125, rfl, ha.keep [0] (by kernel_rfl), hI, (Hp.le_refl _)⟩
        · rw [if_neg hb141] at h1
          have hb141 : (eqA y136 y139) = false := by simpa using hb141
          refine GmT.keep [1, 2, 3, 4, 5, 6, 9, 37] (S' := [(1, .pointer (some ⟨b1, 0, none⟩)), (2, .pointer (some ⟨b2, 0, none⟩)), (3, .bool x5), (4, .pointer (some ⟨b29, 0, none⟩)), (5, .bool x32), (6, .slice A122 y121.length cp123), (9, .bool y131), (37, .bool false)]) (by (try simp only [hb141]); kernel_rfl) ?_
          refine GmT.p' 4 38 (undef) (by kernel_rfl) (by kernel_rfl) ?_
          refine GmT.p' 5 39 (.bool false) (by kernel_rfl) (by kernel_rfl) ?_
          refine GmT.p' 6 40 (.bool false) (by kernel_rfl) (by kernel_rfl) ?_
          refine GmT.p' 7 41 (undef) (by kernel_rfl) (by kernel_rfl) ?_
          refine GmT.p' 8 42 (.bool false) (by kernel_rfl) (by kernel_rfl) ?_
          refine GmT.p' 9 43 (.bool false) (by kernel_rfl) (by kernel_rfl) ?_
          refine GmT.p' 10 44 (undef) (by kernel_rfl) (by kernel_rfl) ?_
          refine GmT.p' 11 45 (undef) (by kernel_rfl) (by kernel_rfl) ?_
          refine GmT.p' 12 46 (undef) (by kernel_rfl) (by kernel_rfl) ?_
          refine GmT.p' 13 47 (.bool false) (by kernel_rfl) (by kernel_rfl) ?_
          refine GmT.p' 14 48 (.bool false) (by kernel_rfl) (by kernel_rfl) ?_
          refine GmT.p' 15 49 (undef) (by kernel_rfl) (by kernel_rfl) ?_
          refine GmT.p' 16 50 (undef) (by kernel_rfl) (by kernel_rfl) ?_
          refine GmT.p' 17 51 (undef) (by kernel_rfl) (by kernel_rfl) ?_
          refine GmT.p' 18 52 (.bool false) (by kernel_rfl) (by kernel_rfl) ?_
          refine GmT.p' 19 53 (.bool false) (by kernel_rfl) (by kernel_rfl) ?_
          refine GmT.p' 20 54 (undef) (by kernel_rfl) (by kernel_rfl) ?_
          refine GmT.p' 21 55 (undef) (by kernel_rfl) (by kernel_rfl) ?_
          refine GmT.p' 22 56 (undef) (by kernel_rfl) (by kernel_rfl) ?_
          refine GmT.p' 23 57 (undef) (by kernel_rfl) (by kernel_rfl) ?_
          refine GmT.p' 24 58 (undef) (by kernel_rfl) (by kernel_rfl) ?_
          refine GmT.p' 25 59 (.bool false) (by kernel_rfl) (by kernel_rfl) ?_
          refine GmT.p' 26 60 (.bool false) (by kernel_rfl) (by kernel_rfl) ?_
          refine GmT.p' 27 61 (undef) (by kernel_rfl) (by kernel_rfl) ?_
          refine GmT.p' 28 62 (undef) (by kernel_rfl) (by kernel_rfl) ?_
          refine GmT.p' 29 63 (.bool false) (by kernel_rfl) (by kernel_rfl) ?_
          refine GmT.p' 30 64 (.bool false) (by kernel_rfl) (by kernel_rfl) ?_
          refine GmT.p' 31 65 (undef) (by kernel_rfl) (by kernel_rfl) ?_
          refine GmT.p' 32 66 (undef) (by kernel_rfl) (by kernel_rfl) ?_
          refine GmT.p' 33 67 (undef) (by kernel_rfl) (by kernel_rfl) ?_
          refine GmT.p' 34 68 (undef) (by kernel_rfl) (by kernel_rfl) ?_
          refine GmT.p' 35 69 (.bool false) (by kernel_rfl) (by kernel_rfl) ?_
          refine GmT.p' 36 70 (.bool false) (by kernel_rfl) (by kernel_rfl) ?_
          refine GmT.p' 37 71 (undef) (by kernel_rfl) (by kernel_rfl) ?_
          refine GmT.p' 38 72 (undef) (by kernel_rfl) (by kernel_rfl) ?_
          refine GmT.p' 39 73 (undef) (by kernel_rfl) (by kernel_rfl) ?_
          refine GmT.p' 40 74 (undef) (by kernel_rfl) (by kernel_rfl) ?_
          refine GmT.p' 41 75 (undef) (by kernel_rfl) (by kernel_rfl) ?_
          refine GmT.p' 42 76 (.bool false) (by kernel_rfl) (by kernel_rfl) ?_
          refine GmT.p' 43 77 (.bool false) (by kernel_rfl) (by kernel_rfl) ?_
          refine GmT.p' 44 78 (undef) (by kernel_rfl) (by kernel_rfl) ?_
          refine GmT.p' 45 79 (undef) (by kernel_rfl) (by kernel_rfl) ?_
          refine GmT.p' 46 80 (undef) (by kernel_rfl) (by kernel_rfl) ?_
          refine GmT.p' 47 81 (.bool false) (by kernel_rfl) (by kernel_rfl) ?_
          refine GmT.p' 48 0 (.bool false) (by kernel_rfl) (by kernel_rfl) ?_
          refine GmT.done (by kernel_rfl) ?_
          have hI := hI.drop
          have hI := hI.drop
          have hI := hI.drop
          have hI := hI.drop
          have e := someS h1
          subst e
          exact Qn.thenJ fun a ha => ⟨false, Z125, rfl, ha.keep [0] (by kernel_rfl), hI, (Hp.le_refl _)⟩
      ·
        rintro a w ⟨x134, Z132, rfl, ha, hI, hle133⟩
        try dsimp only at h0
        refine CodT.of ?_ ha
        refine CodT.ret ?_
        have e := someS h0
        subst e
        refine Qn.keep [0] (S' := [(0, .bool x134)]) (by kernel_rfl) ?_
        exact post_ret (v := .bool x134) (fun a ha => RunRes.run (vs := [.bool x134]) (.tmp (t := 0) (by kernel_rfl) .nil) ha (by kernel_rfl)) ⟨rfl, hI.weaken (Hp.le_trans (Hp.le_trans (Hp.le_trans hle28 hle118) hle126) hle133)⟩
set_option maxRecDepth 100000 in
set_option maxHeartbeats 4000000 in
/-- cenotaph/cenotaphlaw06.Few -/
theorem c26 (w0 w : World) (Z : Hp) (A : HP) (hI : Inv w0 Z w A) (A_a0 : Option Addr) (c_a0 : Nat) (a0 : (List ApiEvent)) (hr_a0 : RdS Z c_ApiEvent 37 A_a0 c_a0 a0) (r : Bool) (h0 : law06_Few a0 = some r) :
    Calls prog 26 #[.slice A_a0 a0.length c_a0] w (fun e w' => e = .returned (.bool r) ∧ Inv w0 Z w' A) := by
  have e4 := calls_intro (R := (fun e w' => e = .returned (.bool r) ∧ Inv w0 Z w' A)) (w := w) (args := [.slice A_a0 a0.length c_a0]) (fn := Go.Proofs.Try.f26) 24 Go.Proofs.Try.func26 (by rfl) Go.Proofs.Try.ntmps26 (by kernel_rfl)
  refine e4 ?_
  clear e4
  unfold law06_Few at h0
  refine CodT.seq ?_
  refine CodT.regionL [0] (by kernel_rfl) ?_
  refine OpsT.pures (r := []) [0] [0] (S' := [(0, .slice A_a0 a0.length c_a0)]) (by kernel_rfl) ?_
  refine OpsT.done ?_
  refine Qn.then ?_
  refine CodT.seq ?_
  refine CodT.seq ?_
  refine CodT.regionL [0] (by kernel_rfl) ?_
  refine OpsT.pures (r := []) [0] [0, 3] (S' := [(0, .slice A_a0 a0.length c_a0), (3, .int .i64 0)]) (by kernel_rfl) ?_
  refine OpsT.done ?_
  refine Qn.then ?_
  obtain ⟨r1, h1, h0⟩ := bindS h0
  refine CodT.meet1 (fun a w => .inr () = r1 ∧ Fr 24 [(0, .slice A_a0 a0.length c_a0)] a ∧ Inv w0 Z w A) ?_ ?_
  ·
    refine CodT.block ?_
    refine (fun a ha => wp_loopN (fun k a w => ∃ (x1 : Int), law06_Few.l0 a0 k x1 = some r1 ∧ Fr 24 [(0, .slice A_a0 a0.length c_a0), (3, .int .i64 x1)] a ∧ Inv w0 Z w A) ?_ FU a w ⟨0, h1, ha.keep [0, 3] (by kernel_rfl), hI⟩)
    clear h1 hI
    rintro k a w ⟨x1, h1, ha, hI⟩
    rcases k with _ | k
    · cases h1
    simp only [law06_Few.l0] at h1
    refine CodT.of ?_ ha
    refine CodT.seq ?_
    obtain ⟨r2, h2, h1⟩ := bindS h1
    refine CodT.meet (fun a w => ∃ (x2 : Bool), x2 = r2 ∧ Fr 24 [(0, .slice A_a0 a0.length c_a0), (3, .int .i64 x1), (11, .bool x2)] a ∧ Inv w0 Z w A) ?_ ?_
    ·
      refine CodT.regionL [0, 1, 2, 3, 4, 5, 6, 7] (by kernel_rfl) ?_
      refine OpsT.pures (r := [5, 6, 7]) [0, 1, 2, 3, 4] [0, 3, 8] (S' := [(0, .slice A_a0 a0.length c_a0), (3, .int .i64 x1), (8, .bool (decide (x1 < (a0.length : Int))))]) (by kernel_rfl) ?_
      by_cases hb3 : (decide (x1 < (a0.length : Int))) = true
      · rw [if_pos hb3] at h2
        refine OpsT.keep [0, 3, 8] (S' := [(0, .slice A_a0 a0.length c_a0), (3, .int .i64 x1), (8, .bool true)]) (by (try simp only [hb3]); kernel_rfl) ?_
        refine OpsT.pures (r := []) [5, 6, 7] [0, 3, 11] (S' := [(0, .slice A_a0 a0.length c_a0), (3, .int .i64 x1), (11, .bool (decide (x1 ≤ 20)))]) (by kernel_rfl) ?_
        refine OpsT.done ?_
        have e := someS h2
        subst e
        exact Qn.thenJ fun a ha => ⟨decide (x1 ≤ 20), rfl, ha.keep [0, 3, 11] (by kernel_rfl), hI⟩
      · rw [if_neg hb3] at h2
        have hb3 : (decide (x1 < (a0.length : Int))) = false := by simpa using hb3
        refine OpsT.keep [0, 3, 8] (S' := [(0, .slice A_a0 a0.length c_a0), (3, .int .i64 x1), (8, .bool false)]) (by (try simp only [hb3]); kernel_rfl) ?_
        refine OpsT.pures (r := []) [5, 6, 7] [0, 3, 11] (S' := [(0, .slice A_a0 a0.length c_a0), (3, .int .i64 x1), (11, .bool false)]) (by kernel_rfl) ?_
        refine OpsT.done ?_
        have e := someS h2
        subst e
        exact Qn.thenJ fun a ha => ⟨false, rfl, ha.keep [0, 3, 11] (by kernel_rfl), hI⟩
    ·
      rintro a w ⟨x2, rfl, ha, hI⟩
      try dsimp only at h1
      refine CodT.of ?_ ha
      by_cases hb4 : x2 = true
      · rw [if_pos hb4] at h1
        refine CodT.yes' (b := x2) (by kernel_rfl) hb4 ?_
        refine CodT.skip ?_
        refine Qn.then ?_
        refine CodT.seq ?_
        refine CodT.block ?_
        refine CodT.seq ?_
        refine CodT.regionL [0, 1, 2, 3, 4, 5, 6] (by kernel_rfl) ?_
        refine OpsT.pures (r := [2, 3, 4, 5, 6]) [0, 1] [0, 3, 14, 15] (S' := [(0, .slice A_a0 a0.length c_a0), (3, .int .i64 x1), (14, .slice A_a0 a0.length c_a0), (15, .int .i64 x1)]) (by kernel_rfl) ?_
        obtain ⟨hg5, h1⟩ := guardS h1
        obtain ⟨g6, o10, hA7, hr8, hl9⟩ := RdS.get hr_a0 hg5.1 hg5.2
        refine OpsT.cons (Does.yi (Yl.indexSlice (d := 16) (T := 56) (cc := c_a0) (k := .i64) (j := x1) (g := g6) (o := o10) (by kernel_rfl) Go.Proofs.Try.underlying56 ty65 hA7 hg5.1 hg5.2) hI ?_)
        refine OpsT.pures (r := [4, 5, 6]) [3] [0, 3, 17] (S' := [(0, .slice A_a0 a0.length c_a0), (3, .int .i64 x1), (17, .pointer (some ⟨g6, o10 + x1.toNat * 37 + 2, none⟩))]) (by kernel_rfl) ?_
        refine OpsT.cons (Does.yi (Yl.load (d := 18) (T := 9) (v := .string ((gt a0 x1).Name)) (by kernel_rfl) (ldR ty9 (v := .string ((gt a0 x1).Name)) 2 (fun w hC => hr8 w0 w _ hC) (by kernel_rfl))) hI ?_)
        refine OpsT.pures (r := []) [5, 6] [0, 3, 20] (S' := [(0, .slice A_a0 a0.length c_a0), (3, .int .i64 x1), (20, .bool (decide ((((gt a0 x1).Name).size : Int) > 100)))]) (by kernel_rfl) ?_
        refine OpsT.done ?_
        refine Qn.then ?_
        by_cases hb11 : (decide ((((gt a0 x1).Name).size : Int) > 100)) = true
        · rw [if_pos hb11] at h1
          refine CodT.yes' (b := decide ((((gt a0 x1).Name).size : Int) > 100)) (by kernel_rfl) hb11 ?_
          refine CodT.seq ?_
          refine CodT.regionL [0] (by kernel_rfl) ?_
          refine OpsT.pures (r := []) [0] [2] (S' := [(2, .bool false)]) (by kernel_rfl) ?_
          refine OpsT.done ?_
          refine Qn.then ?_
          refine CodT.ret ?_
          refine Qn.block_ret ?_
          refine Qn.ret_then ?_
          refine Qn.ret_then ?_
          refine Qn.block_ret ?_
          refine Qn.ret_then ?_
          refine Qn.ret_then ?_
          have e := someS h1
          subst e
          try dsimp only at h0
          have e := someS h0
          subst e
          refine Qn.keep [2] (S' := [(2, .bool false)]) (by kernel_rfl) ?_
          exact post_ret (v := .bool false) (fun a ha => RunRes.run (vs := [.bool false]) (.tmp (t := 2) (by kernel_rfl) .nil) ha (by kernel_rfl)) ⟨rfl, hI⟩
        · rw [if_neg hb11] at h1
          refine CodT.no' (b := decide ((((gt a0 x1).Name).size : Int) > 100)) (by kernel_rfl) (by simpa using hb11) ?_
          refine CodT.skip ?_
          refine Qn.block_normal ?_
          refine Qn.then ?_
          refine CodT.regionL [0, 1, 2] (by kernel_rfl) ?_
          refine OpsT.pures (r := []) [0, 1, 2] [0, 3] (S' := [(0, .slice A_a0 a0.length c_a0), (3, .int .i64 (wi64 (x1 + 1)))]) (by kernel_rfl) ?_
          refine OpsT.done ?_
          exact Qn.thenJ fun a ha => ⟨k, Nat.lt_succ_self k, wi64 (x1 + 1), h1, ha.keep [0, 3] (by kernel_rfl), hI⟩
      · rw [if_neg hb4] at h1
        refine CodT.no' (b := x2) (by kernel_rfl) (by simpa using hb4) ?_
        refine CodT.exit ?_
        refine Qn.exit_then ?_
        refine Qn.exit_then ?_
        refine Qn.block ?_
        have e := someS h1
        subst e
        exact Qn.thenJ fun a ha => ⟨rfl, ha.keep [0] (by kernel_rfl), hI⟩
  ·
    rintro a w ⟨rfl, ha, hI⟩
    try dsimp only at h0
    refine Qn.of ?_ ha
    refine Qn.then ?_
    refine CodT.seq ?_
    refine CodT.regionL [0, 1, 2, 3] (by kernel_rfl) ?_
    refine OpsT.pures (r := []) [0, 1, 2, 3] [2] (S' := [(2, .bool (decide ((a0.length : Int) ≤ 20)))]) (by kernel_rfl) ?_
    refine OpsT.done ?_
    refine Qn.then ?_
    refine CodT.ret ?_
    have e := someS h0
    subst e
    refine Qn.keep [2] (S' := [(2, .bool (decide ((a0.length : Int) ≤ 20)))]) (by kernel_rfl) ?_
    exact post_ret (v := .bool (decide ((a0.length : Int) ≤ 20))) (fun a ha => RunRes.run (vs := [.bool (decide ((a0.length : Int) ≤ 20))]) (.tmp (t := 2) (by kernel_rfl) .nil) ha (by kernel_rfl)) ⟨rfl, hI⟩
set_option maxRecDepth 100000 in
set_option maxHeartbeats 4000000 in
/-- cenotaph/cenotaphref05.tells -/
theorem c99 (w0 w : World) (Z : Hp) (A : HP) (hI : Inv w0 Z w A) (a0 : Int) (r : (List Bool)) (h0 : ref05_tells a0 = some r) :
    Calls prog 99 #[.int .i64 a0] w (fun e w' => e = .returned (.agg (cA Value.bool r).toArray) ∧ r.length = 5 ∧ Inv w0 Z w' A) := by
  have e4 := calls_intro (R := (fun e w' => e = .returned (.agg (cA Value.bool r).toArray) ∧ r.length = 5 ∧ Inv w0 Z w' A)) (w := w) (args := [.int .i64 a0]) (fn := Go.Proofs.Try.f99) 25 Go.Proofs.Try.func99 (by rfl) Go.Proofs.Try.ntmps99 (by kernel_rfl)
  refine e4 ?_
  clear e4
  unfold ref05_tells at h0
  refine CodT.seq ?_
  refine CodT.regionL [0] (by kernel_rfl) ?_
  refine OpsT.cons (Does.allocL (d := 2) (T := 144) (cA Value.bool (List.replicate 5 (false : Bool))) (by kernel_rfl) ty144 hI (by kernel_rfl) ?_)
  intro b1 w hI
  refine OpsT.done ?_
  refine Qn.then ?_
  refine CodT.seq ?_
  refine CodT.seq ?_
  refine CodT.regionL [0] (by kernel_rfl) ?_
  refine OpsT.pures (r := []) [0] [2, 3] (S' := [(2, .pointer (some ⟨b1, 0, none⟩)), (3, .int .i64 a0)]) (by kernel_rfl) ?_
  refine OpsT.done ?_
  refine Qn.then ?_
  refine CodT.block ?_
  obtain ⟨r1, h1, h0⟩ := bindS h0
  refine CodT.meet (fun a w => ∃ (x2 : Bool), x2 = r1 ∧ Fr 25 [(2, .pointer (some ⟨b1, 0, none⟩)), (3, .int .i64 a0), (4, .bool x2)] a ∧ Inv w0 Z w (star (pt b1 (.cells (cA Value.bool (List.replicate 5 (false : Bool))).toArray 144 (0, 0))) A)) ?_ ?_
  ·
    refine CodT.seq ?_
    refine CodT.regionL [0, 1] (by kernel_rfl) ?_
    refine OpsT.pures (r := []) [0, 1] [2, 3, 4] (S' := [(2, .pointer (some ⟨b1, 0, none⟩)), (3, .int .i64 a0), (4, .bool (a0 == 0))]) (by kernel_rfl) ?_
    refine OpsT.done ?_
    refine Qn.then ?_
    by_cases hb3 : (a0 == 0) = true
    · rw [if_pos hb3] at h1
      refine CodT.yes' (b := a0 == 0) (by kernel_rfl) hb3 ?_
      refine CodT.skip ?_
      have e := someS h1
      subst e
      exact Qn.thenJ fun a ha => ⟨a0 == 0, rfl, ha.keep [2, 3, 4] (by kernel_rfl), hI⟩
    · rw [if_neg hb3] at h1
      refine CodT.no' (b := a0 == 0) (by kernel_rfl) (by simpa using hb3) ?_
      refine CodT.seq ?_
      refine CodT.regionL [0, 1] (by kernel_rfl) ?_
      refine OpsT.pures (r := []) [0, 1] [2, 3, 4] (S' := [(2, .pointer (some ⟨b1, 0, none⟩)), (3, .int .i64 a0), (4, .bool (a0 == 4))]) (by kernel_rfl) ?_
      refine OpsT.done ?_
      refine Qn.then ?_
      by_cases hb4 : (a0 == 4) = true
      · rw [if_pos hb4] at h1
        refine CodT.yes' (b := a0 == 4) (by kernel_rfl) hb4 ?_
        refine CodT.skip ?_
        have e := someS h1
        subst e
        exact Qn.thenJ fun a ha => ⟨a0 == 4, rfl, ha.keep [2, 3, 4] (by kernel_rfl), hI⟩
      · rw [if_neg hb4] at h1
        refine CodT.no' (b := a0 == 4) (by kernel_rfl) (by simpa using hb4) ?_
        refine CodT.regionL [0, 1] (by kernel_rfl) ?_
        refine OpsT.pures (r := []) [0, 1] [2, 3, 4] (S' := [(2, .pointer (some ⟨b1, 0, none⟩)), (3, .int .i64 a0), (4, .bool (a0 == 5))]) (by kernel_rfl) ?_
        refine OpsT.done ?_
        have e := someS h1
        subst e
        exact Qn.thenJ fun a ha => ⟨a0 == 5, rfl, ha.keep [2, 3, 4] (by kernel_rfl), hI⟩
  ·
    rintro a w ⟨x2, rfl, ha, hI⟩
    try dsimp only at h0
    refine CodT.of ?_ ha
    by_cases hb5 : x2 = true
    · rw [if_pos hb5] at h0
      refine CodT.yes' (b := x2) (by kernel_rfl) hb5 ?_
      refine CodT.seq ?_
      refine CodT.regionL [0, 1] (by kernel_rfl) ?_
      refine OpsT.pures (r := [1]) [0] [2, 8] (S' := [(2, .pointer (some ⟨b1, 0, none⟩)), (8, .agg (cA Value.bool ([true, true, false, false, false] : List Bool)).toArray)]) (by kernel_rfl) ?_
      refine OpsT.cons (Does.storeAll (T := 144) (b := b1) (n := 5) (xs := (List.replicate 5 (false : Bool))) (ys := ([true, true, false, false, false] : List Bool)) (by kernel_rfl) ty144 hI (fun _ => rfl) (by kernel_rfl) (by kernel_rfl) ?_)
      intro w hI
      refine OpsT.done ?_
      refine Qn.then ?_
      refine CodT.ret ?_
      refine Qn.block_ret ?_
      refine Qn.ret_then ?_
      have hL6 := (ldBN ty144 (l := cA Value.bool ([true, true, false, false, false] : List Bool)) (o := 0) (cs := cA Value.bool ([true, true, false, false, false] : List Bool)) (ent_refl _) ((cA_length _ _).trans (by kernel_rfl)) (whole _ _ ((cA_length _ _).trans (by kernel_rfl)))) w hI
      have hI := hI.drop
      have e := someS h0
      subst e
      refine Qn.keep [2] (S' := [(2, .pointer (some ⟨b1, 0, none⟩))]) (by kernel_rfl) ?_
      exact post_ret (v := .agg (cA Value.bool ([true, true, false, false, false] : List Bool)).toArray) (fun a ha => RunRes.run (vs := [.agg (cA Value.bool ([true, true, false, false, false] : List Bool)).toArray]) (.cell (t := 2) (T := 144) (ad := ⟨b1, 0, none⟩) (by kernel_rfl) hL6 .nil) ha (by kernel_rfl)) ⟨rfl, (by kernel_rfl), hI⟩
    · rw [if_neg hb5] at h0
      refine CodT.no' (b := x2) (by kernel_rfl) (by simpa using hb5) ?_
      refine CodT.seq ?_
      refine CodT.regionL [0, 1] (by kernel_rfl) ?_
      refine OpsT.pures (r := []) [0, 1] [2, 3, 9] (S' := [(2, .pointer (some ⟨b1, 0, none⟩)), (3, .int .i64 a0), (9, .bool (a0 == 1))]) (by kernel_rfl) ?_
      refine OpsT.done ?_
      refine Qn.then ?_
      by_cases hb7 : (a0 == 1) = true
      · rw [if_pos hb7] at h0
        refine CodT.yes' (b := a0 == 1) (by kernel_rfl) hb7 ?_
        refine CodT.seq ?_
        refine CodT.regionL [0, 1] (by kernel_rfl) ?_
        refine OpsT.pures (r := [1]) [0] [2, 11] (S' := [(2, .pointer (some ⟨b1, 0, none⟩)), (11, .agg (cA Value.bool ([true, false, false, true, false] : List Bool)).toArray)]) (by kernel_rfl) ?_
        refine OpsT.cons (Does.storeAll (T := 144) (b := b1) (n := 5) (xs := (List.replicate 5 (false : Bool))) (ys := ([true, false, false, true, false] : List Bool)) (by kernel_rfl) ty144 hI (fun _ => rfl) (by kernel_rfl) (by kernel_rfl) ?_)
        intro w hI
        refine OpsT.done ?_
        refine Qn.then ?_
        refine CodT.ret ?_
        refine Qn.block_ret ?_
        refine Qn.ret_then ?_
        have hL8 := (ldBN ty144 (l := cA Value.bool ([true, false, false, true, false] : List Bool)) (o := 0) (cs := cA Value.bool ([true, false, false, true, false] : List Bool)) (ent_refl _) ((cA_length _ _).trans (by kernel_rfl)) (whole _ _ ((cA_length _ _).trans (by kernel_rfl)))) w hI
        have hI := hI.drop
        have e := someS h0
        subst e
        refine Qn.keep [2] (S' := [(2, .pointer (some ⟨b1, 0, none⟩))]) (by kernel_rfl) ?_
        exact post_ret (v := .agg (cA Value.bool ([true, false, false, true, false] : List Bool)).toArray) (fun a ha => RunRes.run (vs := [.agg (cA Value.bool ([true, false, false, true, false] : List Bool)).toArray]) (.cell (t := 2) (T := 144) (ad := ⟨b1, 0, none⟩) (by kernel_rfl) hL8 .nil) ha (by kernel_rfl)) ⟨rfl, (by kernel_rfl), hI⟩
      · rw [if_neg hb7] at h0
        refine CodT.no' (b := a0 == 1) (by kernel_rfl) (by simpa using hb7) ?_
        refine CodT.seq ?_
        refine CodT.regionL [0, 1] (by kernel_rfl) ?_
        refine OpsT.pures (r := []) [0, 1] [2, 3, 12] (S' := [(2, .pointer (some ⟨b1, 0, none⟩)), (3, .int .i64 a0), (12, .bool (a0 == 2))]) (by kernel_rfl) ?_
        refine OpsT.done ?_
        refine Qn.then ?_
        by_cases hb9 : (a0 == 2) = true
        · rw [if_pos hb9] at h0
          refine CodT.yes' (b := a0 == 2) (by kernel_rfl) hb9 ?_
          refine CodT.seq ?_
          refine CodT.regionL [0, 1] (by kernel_rfl) ?_
          refine OpsT.pures (r := [1]) [0] [2, 14] (S' := [(2, .pointer (some ⟨b1, 0, none⟩)), (14, .agg (cA Value.bool ([true, false, true, true, true] : List Bool)).toArray)]) (by kernel_rfl) ?_
          refine OpsT.cons (Does.storeAll (T := 144) (b := b1) (n := 5) (xs := (List.replicate 5 (false : Bool))) (ys := ([true, false, true, true, true] : List Bool)) (by kernel_rfl) ty144 hI (fun _ => rfl) (by kernel_rfl) (by kernel_rfl) ?_)
          intro w hI
          refine OpsT.done ?_
          refine Qn.then ?_
          refine CodT.ret ?_
          refine Qn.block_ret ?_
          refine Qn.ret_then ?_
          have hL10 := (ldBN ty144 (l := cA Value.bool ([true, false, true, true, true] : List Bool)) (o := 0) (cs := cA Value.bool ([true, false, true, true, true] : List Bool)) (ent_refl _) ((cA_length _ _).trans (by kernel_rfl)) (whole _ _ ((cA_length _ _).trans (by kernel_rfl)))) w hI
          have hI := hI.drop
          have e := someS h0
          subst e
          refine Qn.keep [2] (S' := [(2, .pointer (some ⟨b1, 0, none⟩))]) (by kernel_rfl) ?_
          exact post_ret (v := .agg (cA Value.bool ([true, false, true, true, true] : List Bool)).toArray) (fun a ha => RunRes.run (vs := [.agg (cA Value.bool ([true, false, true, true, true] : List Bool)).toArray]) (.cell (t := 2) (T := 144) (ad := ⟨b1, 0, none⟩) (by kernel_rfl) hL10 .nil) ha (by kernel_rfl)) ⟨rfl, (by kernel_rfl), hI⟩
        · rw [if_neg hb9] at h0
          refine CodT.no' (b := a0 == 2) (by kernel_rfl) (by simpa using hb9) ?_
          refine CodT.seq ?_
          refine CodT.regionL [0, 1] (by kernel_rfl) ?_
          refine OpsT.pures (r := []) [0, 1] [2, 3, 15] (S' := [(2, .pointer (some ⟨b1, 0, none⟩)), (3, .int .i64 a0), (15, .bool (a0 == 3))]) (by kernel_rfl) ?_
          refine OpsT.done ?_
          refine Qn.then ?_
          by_cases hb11 : (a0 == 3) = true
          · rw [if_pos hb11] at h0
            refine CodT.yes' (b := a0 == 3) (by kernel_rfl) hb11 ?_
            refine CodT.seq ?_
            refine CodT.regionL [0, 1] (by kernel_rfl) ?_
            refine OpsT.pures (r := [1]) [0] [2, 17] (S' := [(2, .pointer (some ⟨b1, 0, none⟩)), (17, .agg (cA Value.bool ([true, false, true, false, false] : List Bool)).toArray)]) (by kernel_rfl) ?_
            refine OpsT.cons (Does.storeAll (T := 144) (b := b1) (n := 5) (xs := (List.replicate 5 (false : Bool))) (ys := ([true, false, true, false, false] : List Bool)) (by kernel_rfl) ty144 hI (fun _ => rfl) (by kernel_rfl) (by kernel_rfl) ?_)
            intro w hI
            refine OpsT.done ?_
            refine Qn.then ?_
            refine CodT.ret ?_
            refine Qn.block_ret ?_
            refine Qn.ret_then ?_
            have hL12 := (ldBN ty144 (l := cA Value.bool ([true, false, true, false, false] : List Bool)) (o := 0) (cs := cA Value.bool ([true, false, true, false, false] : List Bool)) (ent_refl _) ((cA_length _ _).trans (by kernel_rfl)) (whole _ _ ((cA_length _ _).trans (by kernel_rfl)))) w hI
            have hI := hI.drop
            have e := someS h0
            subst e
            refine Qn.keep [2] (S' := [(2, .pointer (some ⟨b1, 0, none⟩))]) (by kernel_rfl) ?_
            exact post_ret (v := .agg (cA Value.bool ([true, false, true, false, false] : List Bool)).toArray) (fun a ha => RunRes.run (vs := [.agg (cA Value.bool ([true, false, true, false, false] : List Bool)).toArray]) (.cell (t := 2) (T := 144) (ad := ⟨b1, 0, none⟩) (by kernel_rfl) hL12 .nil) ha (by kernel_rfl)) ⟨rfl, (by kernel_rfl), hI⟩
          · rw [if_neg hb11] at h0
            refine CodT.no' (b := a0 == 3) (by kernel_rfl) (by simpa using hb11) ?_
            refine CodT.seq ?_
            refine CodT.regionL [0, 1] (by kernel_rfl) ?_
            refine OpsT.pures (r := []) [0, 1] [2, 3, 18] (S' := [(2, .pointer (some ⟨b1, 0, none⟩)), (3, .int .i64 a0), (18, .bool (a0 == 6))]) (by kernel_rfl) ?_
            refine OpsT.done ?_
            refine Qn.then ?_
            by_cases hb13 : (a0 == 6) = true
            · rw [if_pos hb13] at h0
              refine CodT.yes' (b := a0 == 6) (by kernel_rfl) hb13 ?_
              refine CodT.seq ?_
              refine CodT.regionL [0, 1] (by kernel_rfl) ?_
              refine OpsT.pures (r := [1]) [0] [2, 20] (S' := [(2, .pointer (some ⟨b1, 0, none⟩)), (20, .agg (cA Value.bool ([true, false, false, false, false] : List Bool)).toArray)]) (by kernel_rfl) ?_
              refine OpsT.cons (Does.storeAll (T := 144) (b := b1) (n := 5) (xs := (List.replicate 5 (false : Bool))) (ys := ([true, false, false, false, false] : List Bool)) (by kernel_rfl) ty144 hI (fun _ => rfl) (by kernel_rfl) (by kernel_rfl) ?_)
              intro w hI
              refine OpsT.done ?_
              refine Qn.then ?_
              refine CodT.ret ?_
              refine Qn.block_ret ?_
              refine Qn.ret_then ?_
              have hL14 := (ldBN ty144 (l := cA Value.bool ([true, false, false, false, false] : List Bool)) (o := 0) (cs := cA Value.bool ([true, false, false, false, false] : List Bool)) (ent_refl _) ((cA_length _ _).trans (by kernel_rfl)) (whole _ _ ((cA_length _ _).trans (by kernel_rfl)))) w hI
              have hI := hI.drop
              have e := someS h0
              subst e
              refine Qn.keep [2] (S' := [(2, .pointer (some ⟨b1, 0, none⟩))]) (by kernel_rfl) ?_
              exact post_ret (v := .agg (cA Value.bool ([true, false, false, false, false] : List Bool)).toArray) (fun a ha => RunRes.run (vs := [.agg (cA Value.bool ([true, false, false, false, false] : List Bool)).toArray]) (.cell (t := 2) (T := 144) (ad := ⟨b1, 0, none⟩) (by kernel_rfl) hL14 .nil) ha (by kernel_rfl)) ⟨rfl, (by kernel_rfl), hI⟩
            · rw [if_neg hb13] at h0
              refine CodT.no' (b := a0 == 6) (by kernel_rfl) (by simpa using hb13) ?_
              refine CodT.seq ?_
              refine CodT.regionL [0, 1] (by kernel_rfl) ?_
              refine OpsT.pures (r := []) [0, 1] [2, 21] (S' := [(2, .pointer (some ⟨b1, 0, none⟩)), (21, .bool (a0 == 7))]) (by kernel_rfl) ?_
              refine OpsT.done ?_
              refine Qn.then ?_
              by_cases hb15 : (a0 == 7) = true
              · rw [if_pos hb15] at h0
                refine CodT.yes' (b := a0 == 7) (by kernel_rfl) hb15 ?_
                refine CodT.seq ?_
                refine CodT.regionL [0, 1] (by kernel_rfl) ?_
                refine OpsT.pures (r := [1]) [0] [2, 23] (S' := [(2, .pointer (some ⟨b1, 0, none⟩)), (23, .agg (cA Value.bool ([false, false, true, false, false] : List Bool)).toArray)]) (by kernel_rfl) ?_
                refine OpsT.cons (Does.storeAll (T := 144) (b := b1) (n := 5) (xs := (List.replicate 5 (false : Bool))) (ys := ([false, false, true, false, false] : List Bool)) (by kernel_rfl) ty144 hI (fun _ => rfl) (by kernel_rfl) (by kernel_rfl) ?_)
                intro w hI
                refine OpsT.done ?_
                refine Qn.then ?_
                refine CodT.ret ?_
                refine Qn.block_ret ?_
                refine Qn.ret_then ?_
                have hL16 := (ldBN ty144 (l := cA Value.bool ([false, false, true, false, false] : List Bool)) (o := 0) (cs := cA Value.bool ([false, false, true, false, false] : List Bool)) (ent_refl _) ((cA_length _ _).trans (by kernel_rfl)) (whole _ _ ((cA_length _ _).trans (by kernel_rfl)))) w hI
                have hI := hI.drop
                have e := someS h0
                subst e
                refine Qn.keep [2] (S' := [(2, .pointer (some ⟨b1, 0, none⟩))]) (by kernel_rfl) ?_
                exact post_ret (v := .agg (cA Value.bool ([false, false, true, false, false] : List Bool)).toArray) (fun a ha => RunRes.run (vs := [.agg (cA Value.bool ([false, false, true, false, false] : List Bool)).toArray]) (.cell (t := 2) (T := 144) (ad := ⟨b1, 0, none⟩) (by kernel_rfl) hL16 .nil) ha (by kernel_rfl)) ⟨rfl, (by kernel_rfl), hI⟩
              · rw [if_neg hb15] at h0
                refine CodT.no' (b := a0 == 7) (by kernel_rfl) (by simpa using hb15) ?_
                refine CodT.skip ?_
                refine Qn.block_normal ?_
                refine Qn.then ?_
                refine CodT.seq ?_
                refine CodT.regionL [0, 1] (by kernel_rfl) ?_
                refine OpsT.pures (r := [1]) [0] [2, 24] (S' := [(2, .pointer (some ⟨b1, 0, none⟩)), (24, .agg (cA Value.bool ([false, false, false, false, false] : List Bool)).toArray)]) (by kernel_rfl) ?_
                refine OpsT.cons (Does.storeAll (T := 144) (b := b1) (n := 5) (xs := (List.replicate 5 (false : Bool))) (ys := ([false, false, false, false, false] : List Bool)) (by kernel_rfl) ty144 hI (fun _ => rfl) (by kernel_rfl) (by kernel_rfl) ?_)
                intro w hI
                refine OpsT.done ?_
                refine Qn.then ?_
                refine CodT.ret ?_
                have hL17 := (ldBN ty144 (l := cA Value.bool ([false, false, false, false, false] : List Bool)) (o := 0) (cs := cA Value.bool ([false, false, false, false, false] : List Bool)) (ent_refl _) ((cA_length _ _).trans (by kernel_rfl)) (whole _ _ ((cA_length _ _).trans (by kernel_rfl)))) w hI
                have hI := hI.drop
                have e := someS h0
                subst e
                refine Qn.keep [2] (S' := [(2, .pointer (some ⟨b1, 0, none⟩))]) (by kernel_rfl) ?_
                exact post_ret (v := .agg (cA Value.bool ([false, false, false, false, false] : List Bool)).toArray) (fun a ha => RunRes.run (vs := [.agg (cA Value.bool ([false, false, false, false, false] : List Bool)).toArray]) (.cell (t := 2) (T := 144) (ad := ⟨b1, 0, none⟩) (by kernel_rfl) hL17 .nil) ha (by kernel_rfl)) ⟨rfl, (by kernel_rfl), hI⟩
set_option maxRecDepth 100000 in
set_option maxHeartbeats 4000000 in
/-- cenotaph/cenotaphref03.Rune -/
theorem c131 (w0 w : World) (Z : Hp) (A : HP) (hI : Inv w0 Z w A) (a0 : ByteArray) (r : (Int × Int)) (h0 : ref03_Rune a0 = some r) :
    Calls prog 131 #[.string a0] w (fun e w' => e = .returned (.tuple #[.int .i64 r.1, .int .i64 r.2]) ∧ Inv w0 Z w' A) := by
  have e4 := calls_intro (R := (fun e w' => e = .returned (.tuple #[.int .i64 r.1, .int .i64 r.2]) ∧ Inv w0 Z w' A)) (w := w) (args := [.string a0]) (fn := Go.Proofs.Try.f131) 85 Go.Proofs.Try.func131 (by rfl) Go.Proofs.Try.ntmps131 (by kernel_rfl)
  refine e4 ?_
  clear e4
  unfold ref03_Rune at h0
  refine CodT.seq ?_
  refine CodT.regionL [0, 1] (by kernel_rfl) ?_
  refine OpsT.pures (r := []) [0, 1] [0] (S' := [(0, .string a0)]) (by kernel_rfl) ?_
  refine OpsT.done ?_
  refine Qn.then ?_
  refine CodT.seq ?_
  refine CodT.regionL [0, 1, 2, 3] (by kernel_rfl) ?_
  refine OpsT.pures (r := [1, 2, 3]) [0] [0, 10] (S' := [(0, .string a0), (10, .string a0)]) (by kernel_rfl) ?_
  obtain ⟨hg1, h0⟩ := guardS h0
  refine OpsT.cons (Does.yi (Yl.indexStr (d := 11) (T := 9) (k := .i64) (j := 0) (s := a0) (by kernel_rfl) Go.Proofs.Try.underlying9 hg1.1 hg1.2) hI ?_)
  refine OpsT.pures (r := []) [2, 3] [0, 4] (S' := [(0, .string a0), (4, .int .i64 (wi64 (bt a0 0)))]) (by kernel_rfl) ?_
  refine OpsT.done ?_
  refine Qn.then ?_
  refine CodT.seq ?_
  refine CodT.seq ?_
  refine CodT.regionL [0, 1] (by kernel_rfl) ?_
  refine OpsT.pures (r := []) [0, 1] [0, 4, 14] (S' := [(0, .string a0), (4, .int .i64 (wi64 (bt a0 0))), (14, .bool (decide ((wi64 (bt a0 0)) < 128)))]) (by kernel_rfl) ?_
  refine OpsT.done ?_
  refine Qn.then ?_
  by_cases hb2 : (decide ((wi64 (bt a0 0)) < 128)) = true
  · rw [if_pos hb2] at h0
    refine CodT.yes' (b := decide ((wi64 (bt a0 0)) < 128)) (by kernel_rfl) hb2 ?_
    refine CodT.seq ?_
    refine CodT.regionL [0, 1, 2] (by kernel_rfl) ?_
    refine OpsT.pures (r := []) [0, 1, 2] [2, 3] (S' := [(2, .int .i64 (wi64 (bt a0 0))), (3, .int .i64 1)]) (by kernel_rfl) ?_
    refine OpsT.done ?_
    refine Qn.then ?_
    refine CodT.ret ?_
    refine Qn.ret_then ?_
    have e := someS h0
    subst e
    refine Qn.keep [2, 3] (S' := [(2, .int .i64 (wi64 (bt a0 0))), (3, .int .i64 1)]) (by kernel_rfl) ?_
    exact post_ret (v := .tuple #[.int .i64 (wi64 (bt a0 0)), .int .i64 1]) (fun a ha => RunRes.run (vs := [.int .i64 (wi64 (bt a0 0)), .int .i64 1]) (.tmp (t := 2) (by kernel_rfl) (.tmp (t := 3) (by kernel_rfl) .nil)) ha (by kernel_rfl)) ⟨rfl, hI⟩
  · rw [if_neg hb2] at h0
    refine CodT.no' (b := decide ((wi64 (bt a0 0)) < 128)) (by kernel_rfl) (by simpa using hb2) ?_
    refine CodT.skip ?_
    refine Qn.then ?_
    refine CodT.seq ?_
    refine CodT.regionL [0] (by kernel_rfl) ?_
    refine OpsT.pures (r := []) [0] [0, 4, 5] (S' := [(0, .string a0), (4, .int .i64 (wi64 (bt a0 0))), (5, .int .i64 0)]) (by kernel_rfl) ?_
    refine OpsT.done ?_
    refine Qn.then ?_
    refine CodT.seq ?_
    refine CodT.regionL [0] (by kernel_rfl) ?_
    refine OpsT.pures (r := []) [0] [0, 4, 5, 6] (S' := [(0, .string a0), (4, .int .i64 (wi64 (bt a0 0))), (5, .int .i64 0), (6, .int .i64 0)]) (by kernel_rfl) ?_
    refine OpsT.done ?_
    refine Qn.then ?_
    refine CodT.seq ?_
    refine CodT.regionL [0] (by kernel_rfl) ?_
    refine OpsT.pures (r := []) [0] [0, 4, 5, 6, 7] (S' := [(0, .string a0), (4, .int .i64 (wi64 (bt a0 0))), (5, .int .i64 0), (6, .int .i64 0), (7, .int .i64 0)]) (by kernel_rfl) ?_
    refine OpsT.done ?_
    refine Qn.then ?_
    obtain ⟨r1, h1, h0⟩ := bindS h0
    refine CodT.meet (fun a w => ∃ (x3 : Int) (x4 : Int) (x5 : Int), (x3, x4, x5) = r1 ∧ Fr 85 [(0, .string a0), (5, .int .i64 x3), (6, .int .i64 x4), (7, .int .i64 x5)] a ∧ Inv w0 Z w A) ?_ ?_
    ·
      obtain ⟨r2, h2, h1⟩ := bindS h1
      refine CodT.meet (fun a w => ∃ (x6 : Bool), x6 = r2 ∧ Fr 85 [(0, .string a0), (4, .int .i64 (wi64 (bt a0 0))), (5, .int .i64 0), (6, .int .i64 0), (7, .int .i64 0), (21, .bool x6)] a ∧ Inv w0 Z w A) ?_ ?_
      ·
        refine CodT.regionL [0, 1, 2, 3, 4, 5] (by kernel_rfl) ?_
        refine OpsT.pures (r := [3, 4, 5]) [0, 1, 2] [0, 4, 5, 6, 7, 18] (S' := [(0, .string a0), (4, .int .i64 (wi64 (bt a0 0))), (5, .int .i64 0), (6, .int .i64 0), (7, .int .i64 0), (18, .bool (decide ((wi64 (bt a0 0)) ≥ 194)))]) (by kernel_rfl) ?_
        by_cases hb7 : (decide ((wi64 (bt a0 0)) ≥ 194)) = true
        · rw [if_pos hb7] at h2
          refine OpsT.keep [0, 4, 5, 6, 7, 18] (S' := [(0, .string a0), (4, .int .i64 (wi64 (bt a0 0))), (5, .int .i64 0), (6, .int .i64 0), (7, .int .i64 0), (18, .bool true)]) (by (try simp only [hb7]); kernel_rfl) ?_
          refine OpsT.pures (r := []) [3, 4, 5] [0, 4, 5, 6, 7, 21] (S' := [(0, .string a0), (4, .int .i64 (wi64 (bt a0 0))), (5, .int .i64 0), (6, .int .i64 0), (7, .int .i64 0), (21, .bool (decide ((wi64 (bt a0 0)) < 224)))]) (by kernel_rfl) ?_
          refine OpsT.done ?_
          have e := someS h2
          subst e
          exact Qn.thenJ fun a ha => ⟨decide ((wi64 (bt a0 0)) < 224), rfl, ha.keep [0, 4, 5, 6, 7, 21] (by kernel_rfl), hI⟩
        · rw [if_neg hb7] at h2
          have hb7 : (decide ((wi64 (bt a0 0)) ≥ 194)) = false := by simpa using hb7
          refine OpsT.keep [0, 4, 5, 6, 7, 18] (S' := [(0, .string a0), (4, .int .i64 (wi64 (bt a0 0))), (5, .int .i64 0), (6, .int .i64 0), (7, .int .i64 0), (18, .bool false)]) (by (try simp only [hb7]); kernel_rfl) ?_
          refine OpsT.pures (r := []) [3, 4, 5] [0, 4, 5, 6, 7, 21] (S' := [(0, .string a0), (4, .int .i64 (wi64 (bt a0 0))), (5, .int .i64 0), (6, .int .i64 0), (7, .int .i64 0), (21, .bool false)]) (by kernel_rfl) ?_
          refine OpsT.done ?_
          have e := someS h2
          subst e
          exact Qn.thenJ fun a ha => ⟨false, rfl, ha.keep [0, 4, 5, 6, 7, 21] (by kernel_rfl), hI⟩
      ·
        rintro a w ⟨x6, rfl, ha, hI⟩
        try dsimp only at h1
        refine CodT.of ?_ ha
        by_cases hb8 : x6 = true
        · rw [if_pos hb8] at h1
          refine CodT.yes' (b := x6) (by kernel_rfl) hb8 ?_
          refine CodT.seq ?_
          refine CodT.regionL [0] (by kernel_rfl) ?_
          refine OpsT.pures (r := []) [0] [0, 4, 5] (S' := [(0, .string a0), (4, .int .i64 (wi64 (bt a0 0))), (5, .int .i64 2)]) (by kernel_rfl) ?_
          refine OpsT.done ?_
          refine Qn.then ?_
          refine CodT.seq ?_
          refine CodT.regionL [0] (by kernel_rfl) ?_
          refine OpsT.pures (r := []) [0] [0, 4, 5, 6] (S' := [(0, .string a0), (4, .int .i64 (wi64 (bt a0 0))), (5, .int .i64 2), (6, .int .i64 128)]) (by kernel_rfl) ?_
          refine OpsT.done ?_
          refine Qn.then ?_
          refine CodT.regionL [0, 1, 2] (by kernel_rfl) ?_
          refine OpsT.pures (r := []) [0, 1, 2] [0, 5, 6, 7] (S' := [(0, .string a0), (5, .int .i64 2), (6, .int .i64 128), (7, .int .i64 (wi64 ((wi64 (bt a0 0)) - 192)))]) (by kernel_rfl) ?_
          refine OpsT.done ?_
          have e := someS h1
          subst e
          exact Qn.thenJ fun a ha => ⟨2, 128, wi64 ((wi64 (bt a0 0)) - 192), rfl, ha.keep [0, 5, 6, 7] (by kernel_rfl), hI⟩
        · rw [if_neg hb8] at h1
          refine CodT.no' (b := x6) (by kernel_rfl) (by simpa using hb8) ?_
          obtain ⟨r2, h2, h1⟩ := bindS h1
          refine CodT.meet (fun a w => ∃ (x9 : Bool), x9 = r2 ∧ Fr 85 [(0, .string a0), (4, .int .i64 (wi64 (bt a0 0))), (5, .int .i64 0), (6, .int .i64 0), (7, .int .i64 0), (29, .bool x9)] a ∧ Inv w0 Z w A) ?_ ?_
          ·
            refine CodT.regionL [0, 1, 2, 3, 4, 5] (by kernel_rfl) ?_
            refine OpsT.pures (r := [3, 4, 5]) [0, 1, 2] [0, 4, 5, 6, 7, 26] (S' := [(0, .string a0), (4, .int .i64 (wi64 (bt a0 0))), (5, .int .i64 0), (6, .int .i64 0), (7, .int .i64 0), (26, .bool (decide ((wi64 (bt a0 0)) ≥ 224)))]) (by kernel_rfl) ?_
            by_cases hb10 : (decide ((wi64 (bt a0 0)) ≥ 224)) = true
            · rw [if_pos hb10] at h2
              refine OpsT.keep [0, 4, 5, 6, 7, 26] (S' := [(0, .string a0), (4, .int .i64 (wi64 (bt a0 0))), (5, .int .i64 0), (6, .int .i64 0), (7, .int .i64 0), (26, .bool true)]) (by (try simp only [hb10]); kernel_rfl) ?_
              refine OpsT.pures (r := []) [3, 4, 5] [0, 4, 5, 6, 7, 29] (S' := [(0, .string a0), (4, .int .i64 (wi64 (bt a0 0))), (5, .int .i64 0), (6, .int .i64 0), (7, .int .i64 0), (29, .bool (decide ((wi64 (bt a0 0)) < 240)))]) (by kernel_rfl) ?_
              refine OpsT.done ?_
              have e := someS h2
              subst e
              exact Qn.thenJ fun a ha => ⟨decide ((wi64 (bt a0 0)) < 240), rfl, ha.keep [0, 4, 5, 6, 7, 29] (by kernel_rfl), hI⟩
            · rw [if_neg hb10] at h2
              have hb10 : (decide ((wi64 (bt a0 0)) ≥ 224)) = false := by simpa using hb10
              refine OpsT.keep [0, 4, 5, 6, 7, 26] (S' := [(0, .string a0), (4, .int .i64 (wi64 (bt a0 0))), (5, .int .i64 0), (6, .int .i64 0), (7, .int .i64 0), (26, .bool false)]) (by (try simp only [hb10]); kernel_rfl) ?_
              refine OpsT.pures (r := []) [3, 4, 5] [0, 4, 5, 6, 7, 29] (S' := [(0, .string a0), (4, .int .i64 (wi64 (bt a0 0))), (5, .int .i64 0), (6, .int .i64 0), (7, .int .i64 0), (29, .bool false)]) (by kernel_rfl) ?_
              refine OpsT.done ?_
              have e := someS h2
              subst e
              exact Qn.thenJ fun a ha => ⟨false, rfl, ha.keep [0, 4, 5, 6, 7, 29] (by kernel_rfl), hI⟩
          ·
            rintro a w ⟨x9, rfl, ha, hI⟩
            try dsimp only at h1
            refine CodT.of ?_ ha
            by_cases hb11 : x9 = true
            · rw [if_pos hb11] at h1
              refine CodT.yes' (b := x9) (by kernel_rfl) hb11 ?_
              refine CodT.seq ?_
              refine CodT.regionL [0] (by kernel_rfl) ?_
              refine OpsT.pures (r := []) [0] [0, 4, 5] (S' := [(0, .string a0), (4, .int .i64 (wi64 (bt a0 0))), (5, .int .i64 3)]) (by kernel_rfl) ?_
              refine OpsT.done ?_
              refine Qn.then ?_
              refine CodT.seq ?_
              refine CodT.regionL [0] (by kernel_rfl) ?_
              refine OpsT.pures (r := []) [0] [0, 4, 5, 6] (S' := [(0, .string a0), (4, .int .i64 (wi64 (bt a0 0))), (5, .int .i64 3), (6, .int .i64 2048)]) (by kernel_rfl) ?_
              refine OpsT.done ?_
              refine Qn.then ?_
              refine CodT.regionL [0, 1, 2] (by kernel_rfl) ?_
              refine OpsT.pures (r := []) [0, 1, 2] [0, 5, 6, 7] (S' := [(0, .string a0), (5, .int .i64 3), (6, .int .i64 2048), (7, .int .i64 (wi64 ((wi64 (bt a0 0)) - 224)))]) (by kernel_rfl) ?_
              refine OpsT.done ?_
              have e := someS h1
              subst e
              exact Qn.thenJ fun a ha => ⟨3, 2048, wi64 ((wi64 (bt a0 0)) - 224), rfl, ha.keep [0, 5, 6, 7] (by kernel_rfl), hI⟩
            · rw [if_neg hb11] at h1
              refine CodT.no' (b := x9) (by kernel_rfl) (by simpa using hb11) ?_
              obtain ⟨r2, h2, h1⟩ := bindS h1
              refine CodT.meet (fun a w => ∃ (x12 : Bool), x12 = r2 ∧ Fr 85 [(0, .string a0), (4, .int .i64 (wi64 (bt a0 0))), (5, .int .i64 0), (6, .int .i64 0), (7, .int .i64 0), (37, .bool x12)] a ∧ Inv w0 Z w A) ?_ ?_
              ·
                refine CodT.regionL [0, 1, 2, 3, 4, 5] (by kernel_rfl) ?_
                refine OpsT.pures (r := [3, 4, 5]) [0, 1, 2] [0, 4, 5, 6, 7, 34] (S' := [(0, .string a0), (4, .int .i64 (wi64 (bt a0 0))), (5, .int .i64 0), (6, .int .i64 0), (7, .int .i64 0), (34, .bool (decide ((wi64 (bt a0 0)) ≥ 240)))]) (by kernel_rfl) ?_
                by_cases hb13 : (decide ((wi64 (bt a0 0)) ≥ 240)) = true
                · rw [if_pos hb13] at h2
                  refine OpsT.keep [0, 4, 5, 6, 7, 34] (S' := [(0, .string a0), (4, .int .i64 (wi64 (bt a0 0))), (5, .int .i64 0), (6, .int .i64 0), (7, .int .i64 0), (34, .bool true)]) (by (try simp only [hb13]); kernel_rfl) ?_
                  refine OpsT.pures (r := []) [3, 4, 5] [0, 4, 5, 6, 7, 37] (S' := [(0, .string a0), (4, .int .i64 (wi64 (bt a0 0))), (5, .int .i64 0), (6, .int .i64 0), (7, .int .i64 0), (37, .bool (decide ((wi64 (bt a0 0)) < 245)))]) (by kernel_rfl) ?_
                  refine OpsT.done ?_
                  have e := someS h2
                  subst e
                  exact Qn.thenJ fun a ha => ⟨decide ((wi64 (bt a0 0)) < 245), rfl, ha.keep [0, 4, 5, 6, 7, 37] (by kernel_rfl), hI⟩
                · rw [if_neg hb13] at h2
                  have hb13 : (decide ((wi64 (bt a0 0)) ≥ 240)) = false := by simpa using hb13
                  refine OpsT.keep [0, 4, 5, 6, 7, 34] (S' := [(0, .string a0), (4, .int .i64 (wi64 (bt a0 0))), (5, .int .i64 0), (6, .int .i64 0), (7, .int .i64 0), (34, .bool false)]) (by (try simp only [hb13]); kernel_rfl) ?_
                  refine OpsT.pures (r := []) [3, 4, 5] [0, 4, 5, 6, 7, 37] (S' := [(0, .string a0), (4, .int .i64 (wi64 (bt a0 0))), (5, .int .i64 0), (6, .int .i64 0), (7, .int .i64 0), (37, .bool false)]) (by kernel_rfl) ?_
                  refine OpsT.done ?_
                  have e := someS h2
                  subst e
                  exact Qn.thenJ fun a ha => ⟨false, rfl, ha.keep [0, 4, 5, 6, 7, 37] (by kernel_rfl), hI⟩
              ·
                rintro a w ⟨x12, rfl, ha, hI⟩
                try dsimp only at h1
                refine CodT.of ?_ ha
                by_cases hb14 : x12 = true
                · rw [if_pos hb14] at h1
                  refine CodT.yes' (b := x12) (by kernel_rfl) hb14 ?_
                  refine CodT.seq ?_
                  refine CodT.regionL [0] (by kernel_rfl) ?_
                  refine OpsT.pures (r := []) [0] [0, 4, 5] (S' := [(0, .string a0), (4, .int .i64 (wi64 (bt a0 0))), (5, .int .i64 4)]) (by kernel_rfl) ?_
                  refine OpsT.done ?_
                  refine Qn.then ?_
                  refine CodT.seq ?_
                  refine CodT.regionL [0] (by kernel_rfl) ?_
                  refine OpsT.pures (r := []) [0] [0, 4, 5, 6] (S' := [(0, .string a0), (4, .int .i64 (wi64 (bt a0 0))), (5, .int .i64 4), (6, .int .i64 65536)]) (by kernel_rfl) ?_
                  refine OpsT.done ?_
                  refine Qn.then ?_
                  refine CodT.regionL [0, 1, 2] (by kernel_rfl) ?_
                  refine OpsT.pures (r := []) [0, 1, 2] [0, 5, 6, 7] (S' := [(0, .string a0), (5, .int .i64 4), (6, .int .i64 65536), (7, .int .i64 (wi64 ((wi64 (bt a0 0)) - 240)))]) (by kernel_rfl) ?_
                  refine OpsT.done ?_
                  have e := someS h1
                  subst e
                  exact Qn.thenJ fun a ha => ⟨4, 65536, wi64 ((wi64 (bt a0 0)) - 240), rfl, ha.keep [0, 5, 6, 7] (by kernel_rfl), hI⟩
                · rw [if_neg hb14] at h1
                  refine CodT.no' (b := x12) (by kernel_rfl) (by simpa using hb14) ?_
                  refine CodT.skip ?_
                  have e := someS h1
                  subst e
                  exact Qn.thenJ fun a ha => ⟨0, 0, 0, rfl, ha.keep [0, 5, 6, 7] (by kernel_rfl), hI⟩
    ·
      rintro a w ⟨x3, x4, x5, rfl, ha, hI⟩
      try dsimp only at h0
      refine CodT.of ?_ ha
      refine CodT.seq ?_
      obtain ⟨r1, h1, h0⟩ := bindS h0
      refine CodT.meet (fun a w => ∃ (x15 : Bool), x15 = r1 ∧ Fr 85 [(0, .string a0), (5, .int .i64 x3), (6, .int .i64 x4), (7, .int .i64 x5), (47, .bool x15)] a ∧ Inv w0 Z w A) ?_ ?_
      ·
        refine CodT.regionL [0, 1, 2, 3, 4, 5, 6, 7] (by kernel_rfl) ?_
        refine OpsT.pures (r := [3, 4, 5, 6, 7]) [0, 1, 2] [0, 5, 6, 7, 42] (S' := [(0, .string a0), (5, .int .i64 x3), (6, .int .i64 x4), (7, .int .i64 x5), (42, .bool (x3 == 0))]) (by kernel_rfl) ?_
        by_cases hb16 : (x3 == 0) = true
        · rw [if_pos hb16] at h1
          refine OpsT.keep [0, 5, 6, 7, 42] (S' := [(0, .string a0), (5, .int .i64 x3), (6, .int .i64 x4), (7, .int .i64 x5), (42, .bool true)]) (by (try simp only [hb16]); kernel_rfl) ?_
          refine OpsT.pures (r := []) [3, 4, 5, 6, 7] [0, 5, 6, 7, 47] (S' := [(0, .string a0), (5, .int .i64 x3), (6, .int .i64 x4), (7, .int .i64 x5), (47, .bool true)]) (by kernel_rfl) ?_
          refine OpsT.done ?_
          have e := someS h1
          subst e
          exact Qn.thenJ fun a ha => ⟨true, rfl, ha.keep [0, 5, 6, 7, 47] (by kernel_rfl), hI⟩
        · rw [if_neg hb16] at h1
          have hb16 : (x3 == 0) = false := by simpa using hb16
          refine OpsT.keep [0, 5, 6, 7, 42] (S' := [(0, .string a0), (5, .int .i64 x3), (6, .int .i64 x4), (7, .int .i64 x5), (42, .bool false)]) (by (try simp only [hb16]); kernel_rfl) ?_
          refine OpsT.pures (r := []) [3, 4, 5, 6, 7] [0, 5, 6, 7, 47] (S' := [(0, .string a0), (5, .int .i64 x3), (6, .int .i64 x4), (7, .int .i64 x5), (47, .bool (decide ((a0.size : Int) < x3)))]) (by kernel_rfl) ?_
          refine OpsT.done ?_
          have e := someS h1
          subst e
          exact Qn.thenJ fun a ha => ⟨decide ((a0.size : Int) < x3), rfl, ha.keep [0, 5, 6, 7, 47] (by kernel_rfl), hI⟩
      ·
        rintro a w ⟨x15, rfl, ha, hI⟩
        try dsimp only at h0
        refine CodT.of ?_ ha
        by_cases hb17 : x15 = true
        · rw [if_pos hb17] at h0
          refine CodT.yes' (b := x15) (by kernel_rfl) hb17 ?_
          refine CodT.seq ?_
          refine CodT.regionL [0, 1] (by kernel_rfl) ?_
          refine OpsT.pures (r := []) [0, 1] [2, 3] (S' := [(2, .int .i64 (-1)), (3, .int .i64 1)]) (by kernel_rfl) ?_
          refine OpsT.done ?_
          refine Qn.then ?_
          refine CodT.ret ?_
          refine Qn.ret_then ?_
          have e := someS h0
          subst e
          refine Qn.keep [2, 3] (S' := [(2, .int .i64 (-1)), (3, .int .i64 1)]) (by kernel_rfl) ?_
          exact post_ret (v := .tuple #[.int .i64 (-1), .int .i64 1]) (fun a ha => RunRes.run (vs := [.int .i64 (-1), .int .i64 1]) (.tmp (t := 2) (by kernel_rfl) (.tmp (t := 3) (by kernel_rfl) .nil)) ha (by kernel_rfl)) ⟨rfl, hI⟩
        · rw [if_neg hb17] at h0
          refine CodT.no' (b := x15) (by kernel_rfl) (by simpa using hb17) ?_
          refine CodT.skip ?_
          refine Qn.then ?_
          refine CodT.seq ?_
          refine CodT.seq ?_
          refine CodT.regionL [0] (by kernel_rfl) ?_
          refine OpsT.pures (r := []) [0] [0, 5, 6, 7, 8] (S' := [(0, .string a0), (5, .int .i64 x3), (6, .int .i64 x4), (7, .int .i64 x5), (8, .int .i64 1)]) (by kernel_rfl) ?_
          refine OpsT.done ?_
          refine Qn.then ?_
          obtain ⟨r1, h1, h0⟩ := bindS h0
          refine CodT.meet1 (fun a w => ∃ (x18 : Int), .inr x18 = r1 ∧ Fr 85 [(5, .int .i64 x3), (6, .int .i64 x4), (7, .int .i64 x18)] a ∧ Inv w0 Z w A) ?_ ?_
          ·
            refine CodT.block ?_
            refine (fun a ha => wp_loopN (fun k a w => ∃ (x19 : Int) (x20 : Int), ref03_Rune.l0 x3 a0 k x19 x20 = some r1 ∧ Fr 85 [(0, .string a0), (5, .int .i64 x3), (6, .int .i64 x4), (7, .int .i64 x19), (8, .int .i64 x20)] a ∧ Inv w0 Z w A) ?_ FU a w ⟨x5, 1, h1, ha.keep [0, 5, 6, 7, 8] (by kernel_rfl), hI⟩)
            clear h1 hI
            rintro k a w ⟨x19, x20, h1, ha, hI⟩
            rcases k with _ | k
            · cases h1
            simp only [ref03_Rune.l0] at h1
            refine CodT.of ?_ ha
            refine CodT.seq ?_
            refine CodT.seq ?_
            refine CodT.regionL [0, 1, 2] (by kernel_rfl) ?_
            refine OpsT.pures (r := []) [0, 1, 2] [0, 5, 6, 7, 8, 50] (S' := [(0, .string a0), (5, .int .i64 x3), (6, .int .i64 x4), (7, .int .i64 x19), (8, .int .i64 x20), (50, .bool (decide (x20 < x3)))]) (by kernel_rfl) ?_
            refine OpsT.done ?_
            refine Qn.then ?_
            by_cases hb21 : (decide (x20 < x3)) = true
            · rw [if_pos hb21] at h1
              refine CodT.yes' (b := decide (x20 < x3)) (by kernel_rfl) hb21 ?_
              refine CodT.skip ?_
              refine Qn.then ?_
              refine CodT.seq ?_
              refine CodT.block ?_
              refine CodT.seq ?_
              refine CodT.regionL [0, 1, 2, 3, 4] (by kernel_rfl) ?_
              refine OpsT.pures (r := [2, 3, 4]) [0, 1] [0, 5, 6, 7, 8, 53, 54] (S' := [(0, .string a0), (5, .int .i64 x3), (6, .int .i64 x4), (7, .int .i64 x19), (8, .int .i64 x20), (53, .string a0), (54, .int .i64 x20)]) (by kernel_rfl) ?_
              obtain ⟨hg22, h1⟩ := guardS h1
              refine OpsT.cons (Does.yi (Yl.indexStr (d := 55) (T := 9) (k := .i64) (j := x20) (s := a0) (by kernel_rfl) Go.Proofs.Try.underlying9 hg22.1 hg22.2) hI ?_)
              refine OpsT.pures (r := []) [3, 4] [0, 5, 6, 7, 8, 9] (S' := [(0, .string a0), (5, .int .i64 x3), (6, .int .i64 x4), (7, .int .i64 x19), (8, .int .i64 x20), (9, .int .i64 (wi64 (bt a0 x20)))]) (by kernel_rfl) ?_
              refine OpsT.done ?_
              refine Qn.then ?_
              refine CodT.seq ?_
              obtain ⟨r2, h2, h1⟩ := bindS h1
              refine CodT.meet (fun a w => ∃ (x23 : Bool), x23 = r2 ∧ Fr 85 [(0, .string a0), (5, .int .i64 x3), (6, .int .i64 x4), (7, .int .i64 x19), (8, .int .i64 x20), (9, .int .i64 (wi64 (bt a0 x20))), (62, .bool x23)] a ∧ Inv w0 Z w A) ?_ ?_
              ·
                refine CodT.regionL [0, 1, 2, 3, 4, 5] (by kernel_rfl) ?_
                refine OpsT.pures (r := [3, 4, 5]) [0, 1, 2] [0, 5, 6, 7, 8, 9, 59] (S' := [(0, .string a0), (5, .int .i64 x3), (6, .int .i64 x4), (7, .int .i64 x19), (8, .int .i64 x20), (9, .int .i64 (wi64 (bt a0 x20))), (59, .bool (decide ((wi64 (bt a0 x20)) < 128)))]) (by kernel_rfl) ?_
                by_cases hb24 : (decide ((wi64 (bt a0 x20)) < 128)) = true
                · rw [if_pos hb24] at h2
                  refine OpsT.keep [0, 5, 6, 7, 8, 9, 59] (S' := [(0, .string a0), (5, .int .i64 x3), (6, .int .i64 x4), (7, .int .i64 x19), (8, .int .i64 x20), (9, .int .i64 (wi64 (bt a0 x20))), (59, .bool true)]) (by (try simp only [hb24]); kernel_rfl) ?_
                  refine OpsT.pures (r := []) [3, 4, 5] [0, 5, 6, 7, 8, 9, 62] (S' := [(0, .string a0), (5, .int .i64 x3), (6, .int .i64 x4), (7, .int .i64 x19), (8, .int .i64 x20), (9, .int .i64 (wi64 (bt a0 x20))), (62, .bool true)]) (by kernel_rfl) ?_
                  refine OpsT.done ?_
                  have e := someS h2
                  subst e
                  exact Qn.thenJ fun a ha => ⟨true, rfl, ha.keep [0, 5, 6, 7, 8, 9, 62] (by kernel_rfl), hI⟩
                · rw [if_neg hb24] at h2
                  have hb24 : (decide ((wi64 (bt a0 x20)) < 128)) = false := by simpa using hb24
                  refine OpsT.keep [0, 5, 6, 7, 8, 9, 59] (S' := [(0, .string a0), (5, .int .i64 x3), (6, .int .i64 x4), (7, .int .i64 x19), (8, .int .i64 x20), (9, .int .i64 (wi64 (bt a0 x20))), (59, .bool false)]) (by (try simp only [hb24]); kernel_rfl) ?_
                  refine OpsT.pures (r := []) [3, 4, 5] [0, 5, 6, 7, 8, 9, 62] (S' := [(0, .string a0), (5, .int .i64 x3), (6, .int .i64 x4), (7, .int .i64 x19), (8, .int .i64 x20), (9, .int .i64 (wi64 (bt a0 x20))), (62, .bool (decide ((wi64 (bt a0 x20)) > 191)))]) (by kernel_rfl) ?_
                  refine OpsT.done ?_
                  have e := someS h2
                  subst e
                  exact Qn.thenJ fun a ha => ⟨decide ((wi64 (bt a0 x20)) > 191), rfl, ha.keep [0, 5, 6, 7, 8, 9, 62] (by kernel_rfl), hI⟩
              ·
                rintro a w ⟨x23, rfl, ha, hI⟩
                try dsimp only at h1
                refine CodT.of ?_ ha
                by_cases hb25 : x23 = true
                · rw [if_pos hb25] at h1
                  refine CodT.yes' (b := x23) (by kernel_rfl) hb25 ?_
                  refine CodT.seq ?_
                  refine CodT.regionL [0, 1] (by kernel_rfl) ?_
                  refine OpsT.pures (r := []) [0, 1] [2, 3] (S' := [(2, .int .i64 (-1)), (3, .int .i64 1)]) (by kernel_rfl) ?_
                  refine OpsT.done ?_
                  refine Qn.then ?_
                  refine CodT.ret ?_
                  refine Qn.ret_then ?_
                  refine Qn.block_ret ?_
                  refine Qn.ret_then ?_
                  refine Qn.ret_then ?_
                  refine Qn.block_ret ?_
                  refine Qn.ret_then ?_
                  refine Qn.ret_then ?_
                  have e := someS h1
                  subst e
                  try dsimp only at h0
                  have e := someS h0
                  subst e
                  refine Qn.keep [2, 3] (S' := [(2, .int .i64 (-1)), (3, .int .i64 1)]) (by kernel_rfl) ?_
                  exact post_ret (v := .tuple #[.int .i64 (-1), .int .i64 1]) (fun a ha => RunRes.run (vs := [.int .i64 (-1), .int .i64 1]) (.tmp (t := 2) (by kernel_rfl) (.tmp (t := 3) (by kernel_rfl) .nil)) ha (by kernel_rfl)) ⟨rfl, hI⟩
                · rw [if_neg hb25] at h1
                  refine CodT.no' (b := x23) (by kernel_rfl) (by simpa using hb25) ?_
                  refine CodT.skip ?_
                  refine Qn.then ?_
                  refine CodT.regionL [0, 1, 2, 3, 4, 5] (by kernel_rfl) ?_
                  refine OpsT.pures (r := []) [0, 1, 2, 3, 4, 5] [0, 5, 6, 7, 8] (S' := [(0, .string a0), (5, .int .i64 x3), (6, .int .i64 x4), (7, .int .i64 (wi64 ((wi64 ((wi64 (x19 * 64)) + (wi64 (bt a0 x20)))) - 128))), (8, .int .i64 x20)]) (by kernel_rfl) ?_
                  refine OpsT.done ?_
                  refine Qn.block_normal ?_
                  refine Qn.then ?_
                  refine CodT.regionL [0, 1, 2] (by kernel_rfl) ?_
                  refine OpsT.pures (r := []) [0, 1, 2] [0, 5, 6, 7, 8] (S' := [(0, .string a0), (5, .int .i64 x3), (6, .int .i64 x4), (7, .int .i64 (wi64 ((wi64 ((wi64 (x19 * 64)) + (wi64 (bt a0 x20)))) - 128))), (8, .int .i64 (wi64 (x20 + 1)))]) (by kernel_rfl) ?_
                  refine OpsT.done ?_
                  exact Qn.thenJ fun a ha => ⟨k, Nat.lt_succ_self k, wi64 ((wi64 ((wi64 (x19 * 64)) + (wi64 (bt a0 x20)))) - 128), wi64 (x20 + 1), h1, ha.keep [0, 5, 6, 7, 8] (by kernel_rfl), hI⟩
            · rw [if_neg hb21] at h1
              refine CodT.no' (b := decide (x20 < x3)) (by kernel_rfl) (by simpa using hb21) ?_
              refine CodT.exit ?_
              refine Qn.exit_then ?_
              refine Qn.exit_then ?_
              refine Qn.block ?_
              have e := someS h1
              subst e
              exact Qn.thenJ fun a ha => ⟨x19, rfl, ha.keep [5, 6, 7] (by kernel_rfl), hI⟩
          ·
            rintro a w ⟨x18, rfl, ha, hI⟩
            try dsimp only at h0
            refine Qn.of ?_ ha
            refine Qn.then ?_
            refine CodT.seq ?_
            obtain ⟨r1, h1, h0⟩ := bindS h0
            refine CodT.meet (fun a w => ∃ (x26 : Bool), x26 = r1 ∧ Fr 85 [(5, .int .i64 x3), (7, .int .i64 x18), (82, .bool x26)] a ∧ Inv w0 Z w A) ?_ ?_
            ·
              refine CodT.regionL [0, 1, 2, 3, 4, 5, 6, 7, 8, 9, 10, 11, 12, 13, 14] (by kernel_rfl) ?_
              refine OpsT.pures (r := [4, 5, 6, 7, 8, 9, 10, 11, 12, 13, 14]) [0, 1, 2, 3] [5, 7, 71] (S' := [(5, .int .i64 x3), (7, .int .i64 x18), (71, .bool (decide (x18 < x4)))]) (by kernel_rfl) ?_
              by_cases hb27 : (decide (x18 < x4)) = true
              · rw [if_pos hb27] at h1
                refine OpsT.keep [5, 7, 71] (S' := [(5, .int .i64 x3), (7, .int .i64 x18), (71, .bool true)]) (by (try simp only [hb27]); kernel_rfl) ?_
                refine OpsT.pures (r := []) [4, 5, 6, 7, 8, 9, 10, 11, 12, 13, 14] [5, 7, 82] (S' := [(5, .int .i64 x3), (7, .int .i64 x18), (82, .bool true)]) (by kernel_rfl) ?_
                refine OpsT.done ?_
                have e := someS h1
                subst e
                exact Qn.thenJ fun a ha => ⟨true, rfl, ha.keep [5, 7, 82] (by kernel_rfl), hI⟩
              · rw [if_neg hb27] at h1
                have hb27 : (decide (x18 < x4)) = false := by simpa using hb27
                refine OpsT.keep [5, 7, 71] (S' := [(5, .int .i64 x3), (7, .int .i64 x18), (71, .bool false)]) (by (try simp only [hb27]); kernel_rfl) ?_
                refine OpsT.pures (r := [8, 9, 10, 11, 12, 13, 14]) [4, 5, 6, 7] [5, 7, 75] (S' := [(5, .int .i64 x3), (7, .int .i64 x18), (75, .bool (decide (x18 > 1114111)))]) (by kernel_rfl) ?_
                by_cases hb28 : (decide (x18 > 1114111)) = true
                · rw [if_pos hb28] at h1
                  refine OpsT.keep [5, 7, 75] (S' := [(5, .int .i64 x3), (7, .int .i64 x18), (75, .bool true)]) (by (try simp only [hb28]); kernel_rfl) ?_
                  refine OpsT.pures (r := []) [8, 9, 10, 11, 12, 13, 14] [5, 7, 82] (S' := [(5, .int .i64 x3), (7, .int .i64 x18), (82, .bool true)]) (by kernel_rfl) ?_
                  refine OpsT.done ?_
                  have e := someS h1
                  subst e
                  exact Qn.thenJ fun a ha => ⟨true, rfl, ha.keep [5, 7, 82] (by kernel_rfl), hI⟩
                · rw [if_neg hb28] at h1
                  have hb28 : (decide (x18 > 1114111)) = false := by simpa using hb28
                  refine OpsT.keep [5, 7, 75] (S' := [(5, .int .i64 x3), (7, .int .i64 x18), (75, .bool false)]) (by (try simp only [hb28]); kernel_rfl) ?_
                  refine OpsT.pures (r := [11, 12, 13, 14]) [8, 9, 10] [5, 7, 75, 78] (S' := [(5, .int .i64 x3), (7, .int .i64 x18), (75, .bool false), (78, .bool (decide (x18 ≥ 55296)))]) (by kernel_rfl) ?_
                  by_cases hb29 : (decide (x18 ≥ 55296)) = true
                  · rw [if_pos hb29] at h1
                    refine OpsT.keep [5, 7, 75, 78] (S' := [(5, .int .i64 x3), (7, .int .i64 x18), (75, .bool false), (78, .bool true)]) (by (try simp only [hb29]); kernel_rfl) ?_
                    refine OpsT.pures (r := []) [11, 12, 13, 14] [5, 7, 82] (S' := [(5, .int .i64 x3), (7, .int .i64 x18), (82, .bool (decide (x18 ≤ 57343)))]) (by kernel_rfl) ?_
                    refine OpsT.done ?_
                    have e := someS h1
                    subst e
                    exact Qn.thenJ fun a ha => ⟨decide (x18 ≤ 57343), rfl, ha.keep [5, 7, 82] (by kernel_rfl), hI⟩
                  · rw [if_neg hb29] at h1
                    have hb29 : (decide (x18 ≥ 55296)) = false := by simpa using hb29
                    refine OpsT.keep [5, 7, 75, 78] (S' := [(5, .int .i64 x3), (7, .int .i64 x18), (75, .bool false), (78, .bool false)]) (by (try simp only [hb29]); kernel_rfl) ?_
                    refine OpsT.pures (r := []) [11, 12, 13, 14] [5, 7, 82] (S' := [(5, .int .i64 x3), (7, .int .i64 x18), (82, .bool false)]) (by kernel_rfl) ?_
                    refine OpsT.done ?_
                    have e := someS h1
                    subst e
                    exact Qn.thenJ fun a ha => ⟨false, rfl, ha.keep [5, 7, 82] (by kernel_rfl), hI⟩
            ·
              rintro a w ⟨x26, rfl, ha, hI⟩
              try dsimp only at h0
              refine CodT.of ?_ ha
              by_cases hb30 : x26 = true
              · rw [if_pos hb30] at h0
                refine CodT.yes' (b := x26) (by kernel_rfl) hb30 ?_
                refine CodT.seq ?_
                refine CodT.regionL [0, 1] (by kernel_rfl) ?_
                refine OpsT.pures (r := []) [0, 1] [2, 3] (S' := [(2, .int .i64 (-1)), (3, .int .i64 1)]) (by kernel_rfl) ?_
                refine OpsT.done ?_
                refine Qn.then ?_
                refine CodT.ret ?_
                refine Qn.ret_then ?_
                have e := someS h0
                subst e
                refine Qn.keep [2, 3] (S' := [(2, .int .i64 (-1)), (3, .int .i64 1)]) (by kernel_rfl) ?_
                exact post_ret (v := .tuple #[.int .i64 (-1), .int .i64 1]) (fun a ha => RunRes.run (vs := [.int .i64 (-1), .int .i64 1]) (.tmp (t := 2) (by kernel_rfl) (.tmp (t := 3) (by kernel_rfl) .nil)) ha (by kernel_rfl)) ⟨rfl, hI⟩
              · rw [if_neg hb30] at h0
                refine CodT.no' (b := x26) (by kernel_rfl) (by simpa using hb30) ?_
                refine CodT.skip ?_
                refine Qn.then ?_
                refine CodT.seq ?_
                refine CodT.regionL [0, 1, 2, 3] (by kernel_rfl) ?_
                refine OpsT.pures (r := []) [0, 1, 2, 3] [2, 3] (S' := [(2, .int .i64 x18), (3, .int .i64 x3)]) (by kernel_rfl) ?_
                refine OpsT.done ?_
                refine Qn.then ?_
                refine CodT.ret ?_
                have e := someS h0
                subst e
                refine Qn.keep [2, 3] (S' := [(2, .int .i64 x18), (3, .int .i64 x3)]) (by kernel_rfl) ?_
                exact post_ret (v := .tuple #[.int .i64 x18, .int .i64 x3]) (fun a ha => RunRes.run (vs := [.int .i64 x18, .int .i64 x3]) (.tmp (t := 2) (by kernel_rfl) (.tmp (t := 3) (by kernel_rfl) .nil)) ha (by kernel_rfl)) ⟨rfl, hI⟩
set_option maxRecDepth 100000 in
set_option maxHeartbeats 4000000 in
/-- cenotaph/cenotaphref03.Runes -/
theorem c127 (w0 w : World) (Z : Hp) (A : HP) (hI : Inv w0 Z w A) (a0 : ByteArray) (r : (List Int)) (h0 : ref03_Runes a0 = some r) :
    Calls prog 127 #[.string a0] w (fun e w' => ∃ (A1 : Option Addr) (c1 : Nat), e = .returned (.slice A1 r.length c1) ∧ Inv w0 Z w' (star (ownS 3 (cI .i64) 1 A1 c1 r) A)) := by
  have e4 := calls_intro (R := (fun e w' => ∃ (A1 : Option Addr) (c1 : Nat), e = .returned (.slice A1 r.length c1) ∧ Inv w0 Z w' (star (ownS 3 (cI .i64) 1 A1 c1 r) A))) (w := w) (args := [.string a0]) (fn := Go.Proofs.Try.f127) 33 Go.Proofs.Try.func127 (by rfl) Go.Proofs.Try.ntmps127 (by kernel_rfl)
  refine e4 ?_
  clear e4
  unfold ref03_Runes at h0
  refine CodT.seq ?_
  refine CodT.regionL [0] (by kernel_rfl) ?_
  refine OpsT.pures (r := []) [0] [0] (S' := [(0, .string a0)]) (by kernel_rfl) ?_
  refine OpsT.done ?_
  refine Qn.then ?_
  refine CodT.seq ?_
  refine CodT.regionL [0] (by kernel_rfl) ?_
  refine OpsT.pures (r := []) [0] [0, 3] (S' := [(0, .string a0), (3, .slice none 0 0)]) (by kernel_rfl) ?_
  refine OpsT.done ?_
  refine Qn.then ?_
  refine CodT.seq ?_
  refine CodT.seq ?_
  refine CodT.regionL [0] (by kernel_rfl) ?_
  refine OpsT.pures (r := []) [0] [0, 3, 4] (S' := [(0, .string a0), (3, .slice none 0 0), (4, .int .i64 0)]) (by kernel_rfl) ?_
  refine OpsT.done ?_
  refine Qn.then ?_
  obtain ⟨r1, h1, h0⟩ := bindS h0
  refine CodT.meet1 (fun a w => ∃ (x1 : (List Int)) (A2 : Option Addr) (cp3 : Nat), x1 = r1 ∧ Fr 33 [(3, .slice A2 x1.length cp3)] a ∧ Inv w0 Z w (star (ownS 3 (cI .i64) 1 A2 cp3 x1) A)) ?_ ?_
  ·
    refine CodT.block ?_
    have hI := ownS_nil (α := Int) hI 3 (cI .i64) 1
    refine (fun a ha => wp_loopN (fun k a w => ∃ (x4 : (List Int)) (x7 : Int) (A5 : Option Addr) (cp6 : Nat), ref03_Runes.l0 a0 k x4 x7 = some r1 ∧ Fr 33 [(0, .string a0), (3, .slice A5 x4.length cp6), (4, .int .i64 x7)] a ∧ Inv w0 Z w (star (ownS 3 (cI .i64) 1 A5 cp6 x4) A)) ?_ FU a w ⟨([] : List Int), 0, none, 0, h1, ha.keep [0, 3, 4] (by kernel_rfl), hI⟩)
    clear h1 hI
    rintro k a w ⟨x4, x7, A5, cp6, h1, ha, hI⟩
    rcases k with _ | k
    · cases h1
    simp only [ref03_Runes.l0] at h1
    refine CodT.of ?_ ha
    refine CodT.seq ?_
    refine CodT.seq ?_
    refine CodT.regionL [0, 1, 2, 3] (by kernel_rfl) ?_
    refine OpsT.pures (r := []) [0, 1, 2, 3] [0, 3, 4, 10] (S' := [(0, .string a0), (3, .slice A5 x4.length cp6), (4, .int .i64 x7), (10, .bool (decide (x7 < (a0.size : Int))))]) (by kernel_rfl) ?_
    refine OpsT.done ?_
    refine Qn.then ?_
    by_cases hb8 : (decide (x7 < (a0.size : Int))) = true
    · rw [if_pos hb8] at h1
      refine CodT.yes' (b := decide (x7 < (a0.size : Int))) (by kernel_rfl) hb8 ?_
      refine CodT.skip ?_
      refine Qn.then ?_
      refine CodT.block ?_
      refine CodT.seq ?_
      refine CodT.regionL [0, 1, 2, 3, 4, 5, 6, 7, 8] (by kernel_rfl) ?_
      refine OpsT.pures (r := [2, 3, 4, 5, 6, 7, 8]) [0, 1] [0, 3, 4, 12, 13] (S' := [(0, .string a0), (3, .slice A5 x4.length cp6), (4, .int .i64 x7), (12, .string a0), (13, .int .i64 x7)]) (by kernel_rfl) ?_
      obtain ⟨hg9, h1⟩ := guardS h1
      refine OpsT.cons (Does.yi (Yl.sliceStr10 (d := 14) (T := 9) (s := a0) (lo := x7) (by kernel_rfl) Go.Proofs.Try.underlying9 hg9) hI ?_)
      obtain ⟨⟨y11, y12⟩, hc10, h1⟩ := bindS h1
      try dsimp only at h1
      refine OpsT.cons (Does.call (d := some 15) (n := 131) (vs := [.string (sx a0 x7 (a0.size : Int))]) (by kernel_rfl) en131 (c131 w0 w _ _ hI (sx a0 x7 (a0.size : Int)) _ hc10) ?_)
      rintro e w ⟨rfl, hI⟩
      refine ⟨_, rfl, ?_⟩
      refine OpsT.pures (r := []) [4, 5, 6, 7, 8] [0, 3, 4, 5, 6] (S' := [(0, .string a0), (3, .slice A5 x4.length cp6), (4, .int .i64 x7), (5, .int .i64 y11), (6, .int .i64 y12)]) (by kernel_rfl) ?_
      refine OpsT.done ?_
      refine Qn.then ?_
      obtain ⟨r2, h2, h1⟩ := bindS h1
      refine CodT.meet (fun a w => ∃ (x13 : Int), x13 = r2 ∧ Fr 33 [(0, .string a0), (3, .slice A5 x4.length cp6), (4, .int .i64 x7), (5, .int .i64 x13), (6, .int .i64 y12)] a ∧ Inv w0 Z w (star (ownS 3 (cI .i64) 1 A5 cp6 x4) A)) ?_ ?_
      ·
        refine CodT.seq ?_
        refine CodT.regionL [0, 1] (by kernel_rfl) ?_
        refine OpsT.pures (r := []) [0, 1] [0, 3, 4, 5, 6, 19] (S' := [(0, .string a0), (3, .slice A5 x4.length cp6), (4, .int .i64 x7), (5, .int .i64 y11), (6, .int .i64 y12), (19, .bool (decide (y11 < 0)))]) (by kernel_rfl) ?_
        refine OpsT.done ?_
        refine Qn.then ?_
        by_cases hb14 : (decide (y11 < 0)) = true
        · rw [if_pos hb14] at h2
          refine CodT.yes' (b := decide (y11 < 0)) (by kernel_rfl) hb14 ?_
          refine CodT.regionL [0, 1, 2, 3, 4, 5] (by kernel_rfl) ?_
          refine OpsT.pures (r := [2, 3, 4, 5]) [0, 1] [0, 3, 4, 6, 20, 21] (S' := [(0, .string a0), (3, .slice A5 x4.length cp6), (4, .int .i64 x7), (6, .int .i64 y12), (20, .string a0), (21, .int .i64 x7)]) (by kernel_rfl) ?_
          obtain ⟨hg15, h2⟩ := guardS h2
          refine OpsT.cons (Does.yi (Yl.indexStr (d := 22) (T := 9) (k := .i64) (j := x7) (s := a0) (by kernel_rfl) Go.Proofs.Try.underlying9 hg15.1 hg15.2) hI ?_)
          refine OpsT.pures (r := []) [3, 4, 5] [0, 3, 4, 5, 6] (S' := [(0, .string a0), (3, .slice A5 x4.length cp6), (4, .int .i64 x7), (5, .int .i64 (wi64 (1114112 + (wi64 (bt a0 x7))))), (6, .int .i64 y12)]) (by kernel_rfl) ?_
          refine OpsT.done ?_
          have e := someS h2
          subst e
          exact Qn.thenJ fun a ha => ⟨wi64 (1114112 + (wi64 (bt a0 x7))), rfl, ha.keep [0, 3, 4, 5, 6] (by kernel_rfl), hI⟩
        · rw [if_neg hb14] at h2
          refine CodT.no' (b := decide (y11 < 0)) (by kernel_rfl) (by simpa using hb14) ?_
          refine CodT.skip ?_
          have e := someS h2
          subst e
          exact Qn.thenJ fun a ha => ⟨y11, rfl, ha.keep [0, 3, 4, 5, 6] (by kernel_rfl), hI⟩
      ·
        rintro a w ⟨x13, rfl, ha, hI⟩
        try dsimp only at h1
        refine CodT.of ?_ ha
        refine CodT.seq ?_
        refine CodT.regionL [0, 1, 2, 3, 4] (by kernel_rfl) ?_
        refine OpsT.pures (r := [2, 3, 4]) [0, 1] [0, 4, 6, 25, 26] (S' := [(0, .string a0), (4, .int .i64 x7), (6, .int .i64 y12), (25, .slice A5 x4.length cp6), (26, .int .i64 x13)]) (by kernel_rfl) ?_
        refine OpsT.cons (Does.buildSlice (en := (cI .i64)) (d := 27) (n := 1) (T := 23) (ps := [(0, .int .i64 x13)]) ([x13] : List Int) (by kernel_rfl) Go.Proofs.Try.underlying23 ty3 (by kernel_rfl) (by kernel_rfl) (by kernel_rfl) (by kernel_rfl) (len_all (fun _ => rfl)) hI ?_)
        intro b16 w hI
        obtain ⟨hg17, h1⟩ := guardS h1
        have hI := hI.mono (pick2 _ _ _)
        refine OpsT.cons (Does.append (d := 28) (t := 23) (tx := 23) (ty := 23) (ys := x4) (zs := ([x13] : List Int)) (x := .slice (some ⟨b16, 0, none⟩) (([x13] : List Int).length) 1) (by kernel_rfl) Go.Proofs.Try.underlying23 ty3 (by kernel_rfl) hI (src_own Go.Proofs.Try.underlying23 (hI.mono (pick2 _ _ _)) (one_flat _ (fun _ => rfl))) (ownS_facts (hI.mono (pick2 _ _ _))).2.2 (by unfold LIM at hg17; omega) hg17 ?_)
        intro A18 cp19 w hI
        refine OpsT.pures (r := []) [4] [0, 3, 4, 6] (S' := [(0, .string a0), (3, .slice A18 ((x4 ++ ([x13] : List Int)).length) cp19), (4, .int .i64 x7), (6, .int .i64 y12)]) (by kernel_rfl) ?_
        refine OpsT.done ?_
        refine Qn.then ?_
        refine CodT.regionL [0, 1, 2, 3] (by kernel_rfl) ?_
        refine OpsT.pures (r := []) [0, 1, 2, 3] [0, 3, 4] (S' := [(0, .string a0), (3, .slice A18 ((x4 ++ ([x13] : List Int)).length) cp19), (4, .int .i64 (wi64 (x7 + y12)))]) (by kernel_rfl) ?_
        refine OpsT.done ?_
        refine Qn.block_normal ?_
        have hI := hI.mono (pick2 _ _ _)
        have hI := hI.drop
        exact Qn.thenJ fun a ha => ⟨k, Nat.lt_succ_self k, x4 ++ ([x13] : List Int), wi64 (x7 + y12), A18, cp19, h1, ha.keep [0, 3, 4] (by kernel_rfl), hI⟩
    · rw [if_neg hb8] at h1
      refine CodT.no' (b := decide (x7 < (a0.size : Int))) (by kernel_rfl) (by simpa using hb8) ?_
      refine CodT.exit ?_
      refine Qn.exit_then ?_
      refine Qn.exit_then ?_
      refine Qn.block ?_
      have e := someS h1
      subst e
      exact Qn.thenJ fun a ha => ⟨x4, A5, cp6, rfl, ha.keep [3] (by kernel_rfl), hI⟩
  ·
    rintro a w ⟨x1, A2, cp3, rfl, ha, hI⟩
    try dsimp only at h0
    refine Qn.of ?_ ha
    refine Qn.then ?_
    refine CodT.seq ?_
    refine CodT.regionL [0, 1] (by kernel_rfl) ?_
    refine OpsT.pures (r := []) [0, 1] [2] (S' := [(2, .slice A2 x1.length cp3)]) (by kernel_rfl) ?_
    refine OpsT.done ?_
    refine Qn.then ?_
    refine CodT.ret ?_
    have e := someS h0
    subst e
    refine Qn.keep [2] (S' := [(2, .slice A2 x1.length cp3)]) (by kernel_rfl) ?_
    exact post_ret (v := .slice A2 x1.length cp3) (fun a ha => RunRes.run (vs := [.slice A2 x1.length cp3]) (.tmp (t := 2) (by kernel_rfl) .nil) ha (by kernel_rfl)) ⟨A2, cp3, rfl, hI⟩
set_option maxRecDepth 100000 in
set_option maxHeartbeats 4000000 in
/-- cenotaph/cenotaphref03.Valid -/
theorem c120 (w0 w : World) (Z : Hp) (A : HP) (hI : Inv w0 Z w A) (a0 : ByteArray) (r : Bool) (h0 : ref03_Valid a0 = some r) :
    Calls prog 120 #[.string a0] w (fun e w' => e = .returned (.bool r) ∧ Inv w0 Z w' A) := by
  have e4 := calls_intro (R := (fun e w' => e = .returned (.bool r) ∧ Inv w0 Z w' A)) (w := w) (args := [.string a0]) (fn := Go.Proofs.Try.f120) 63 Go.Proofs.Try.func120 (by rfl) Go.Proofs.Try.ntmps120 (by kernel_rfl)
  refine e4 ?_
  clear e4
  unfold ref03_Valid at h0
  refine CodT.seq ?_
  refine CodT.regionL [0] (by kernel_rfl) ?_
  refine OpsT.pures (r := []) [0] [0] (S' := [(0, .string a0)]) (by kernel_rfl) ?_
  refine OpsT.done ?_
  refine Qn.then ?_
  refine CodT.seq ?_
  refine CodT.regionL [0, 1, 2] (by kernel_rfl) ?_
  refine OpsT.pures (r := [1, 2]) [0] [6] (S' := [(6, .string a0)]) (by kernel_rfl) ?_
  obtain ⟨y2, hc1, h0⟩ := bindS h0
  try dsimp only at h0
  refine OpsT.cons (Does.call (d := some 7) (n := 127) (vs := [.string a0]) (by kernel_rfl) en127 (c127 w0 w _ _ hI a0 _ hc1) ?_)
  rintro e w ⟨A3, cp4, rfl, hI⟩
  refine ⟨_, rfl, ?_⟩
  refine OpsT.pures (r := []) [2] [3] (S' := [(3, .slice A3 y2.length cp4)]) (by kernel_rfl) ?_
  refine OpsT.done ?_
  refine Qn.then ?_
  refine CodT.seq ?_
  obtain ⟨r1, h1, h0⟩ := bindS h0
  refine CodT.meet (fun a w => ∃ (x5 : Bool), x5 = r1 ∧ Fr 63 [(3, .slice A3 y2.length cp4), (30, .bool x5)] a ∧ Inv w0 Z w (star (ownS 3 (cI .i64) 1 A3 cp4 y2) A)) ?_ ?_
  ·
    refine CodT.regionL [0, 1, 2, 3, 4, 5, 6, 7, 8, 9, 10, 11, 12, 13, 14, 15, 16, 17, 18, 19, 20, 21, 22] (by kernel_rfl) ?_
    refine OpsT.pures (r := [4, 5, 6, 7, 8, 9, 10, 11, 12, 13, 14, 15, 16, 17, 18, 19, 20, 21, 22]) [0, 1, 2, 3] [3, 11] (S' := [(3, .slice A3 y2.length cp4), (11, .bool (decide ((y2.length : Int) < 1)))]) (by kernel_rfl) ?_
    by_cases hb6 : (decide ((y2.length : Int) < 1)) = true
    · rw [if_pos hb6] at h1
      refine OpsT.keep [3, 11] (S' := [(3, .slice A3 y2.length cp4), (11, .bool true)]) (by (try simp only [hb6]); kernel_rfl) ?_
      refine OpsT.pures (r := []) [4, 5, 6, 7, 8, 9, 10, 11, 12, 13, 14, 15, 16, 17, 18, 19, 20, 21, 22] [3, 30] (S' := [(3, .slice A3 y2.length cp4), (30, .bool true)]) (by kernel_rfl) ?_
      refine OpsT.done ?_
      have e := someS h1
      subst e
      exact Qn.thenJ fun a ha => ⟨true, rfl, ha.keep [3, 30] (by kernel_rfl), hI⟩
    · rw [if_neg hb6] at h1
      have hb6 : (decide ((y2.length : Int) < 1)) = false := by simpa using hb6
      refine OpsT.keep [3, 11] (S' := [(3, .slice A3 y2.length cp4), (11, .bool false)]) (by (try simp only [hb6]); kernel_rfl) ?_
      refine OpsT.pures (r := [9, 10, 11, 12, 13, 14, 15, 16, 17, 18, 19, 20, 21, 22]) [4, 5, 6, 7, 8] [3, 16] (S' := [(3, .slice A3 y2.length cp4), (16, .bool (decide ((y2.length : Int) > 24)))]) (by kernel_rfl) ?_
      by_cases hb7 : (decide ((y2.length : Int) > 24)) = true
      · rw [if_pos hb7] at h1
        refine OpsT.keep [3, 16] (S' := [(3, .slice A3 y2.length cp4), (16, .bool true)]) (by (try simp only [hb7]); kernel_rfl) ?_
        refine OpsT.pures (r := []) [9, 10, 11, 12, 13, 14, 15, 16, 17, 18, 19, 20, 21, 22] [3, 30] (S' := [(3, .slice A3 y2.length cp4), (30, .bool true)]) (by kernel_rfl) ?_
        refine OpsT.done ?_
        have e := someS h1
        subst e
        exact Qn.thenJ fun a ha => ⟨true, rfl, ha.keep [3, 30] (by kernel_rfl), hI⟩
      · rw [if_neg hb7] at h1
        have hb7 : (decide ((y2.length : Int) > 24)) = false := by simpa using hb7
        refine OpsT.keep [3, 16] (S' := [(3, .slice A3 y2.length cp4), (16, .bool false)]) (by (try simp only [hb7]); kernel_rfl) ?_
        refine OpsT.pures (r := [10, 11, 12, 13, 14, 15, 16, 17, 18, 19, 20, 21, 22]) [9] [3, 16, 17] (S' := [(3, .slice A3 y2.length cp4), (16, .bool false), (17, .slice A3 y2.length cp4)]) (by kernel_rfl) ?_
        obtain ⟨hg8, h1⟩ := guardS h1
        obtain ⟨g9, hA10, hr11, hl12⟩ := ownS_get hI hg8.1 hg8.2
        refine OpsT.cons (Does.yi (Yl.indexSlice (d := 18) (T := 23) (cc := cp4) (k := .i64) (j := 0) (g := g9) (o := 0) (by kernel_rfl) Go.Proofs.Try.underlying23 ty3 hA10 hg8.1 hg8.2) hI ?_)
        refine OpsT.cons (Does.yi (Yl.load (d := 19) (T := 3) (v := .int .i64 (gt y2 0)) (by kernel_rfl) (ldR ty3 (v := .int .i64 (gt y2 0)) 0 (fun w hC => hr11 w0 w _ hC) (by kernel_rfl))) hI ?_)
        refine OpsT.pures (r := [15, 16, 17, 18, 19, 20, 21, 22]) [12, 13, 14] [3, 22] (S' := [(3, .slice A3 y2.length cp4), (22, .bool ((gt y2 0) == 32))]) (by kernel_rfl) ?_
        by_cases hb13 : ((gt y2 0) == 32) = true
        · rw [if_pos hb13] at h1
          refine OpsT.keep [3, 22] (S' := [(3, .slice A3 y2.length cp4), (22, .bool true)]) (by (try simp only [hb13]); kernel_rfl) ?_
          refine OpsT.pures (r := []) [15, 16, 17, 18, 19, 20, 21, 22] [3, 30] (S' := [(3, .slice A3 y2.length cp4), (30, .bool true)]) (by kernel_rfl) ?_
          refine OpsT.done ?_
          have e := someS h1
          subst e
          exact Qn.thenJ fun a ha => ⟨true, rfl, ha.keep [3, 30] (by kernel_rfl), hI⟩
        · rw [if_neg hb13] at h1
          have hb13 : ((gt y2 0) == 32) = false := by simpa using hb13
          refine OpsT.keep [3, 22] (S' := [(3, .slice A3 y2.length cp4), (22, .bool false)]) (by (try simp only [hb13]); kernel_rfl) ?_
          refine OpsT.pures (r := [19, 20, 21, 22]) [15, 16, 17, 18] [3, 22, 23, 26] (S' := [(3, .slice A3 y2.length cp4), (22, .bool false), (23, .slice A3 y2.length cp4), (26, .int .i64 (wi64 ((y2.length : Int) - 1)))]) (by kernel_rfl) ?_
          obtain ⟨hg14, h1⟩ := guardS h1
          obtain ⟨g15, hA16, hr17, hl18⟩ := ownS_get hI hg14.1 hg14.2
          refine OpsT.cons (Does.yi (Yl.indexSlice (d := 27) (T := 23) (cc := cp4) (k := .i64) (j := wi64 ((y2.length : Int) - 1)) (g := g15) (o := 0) (by kernel_rfl) Go.Proofs.Try.underlying23 ty3 hA16 hg14.1 hg14.2) hI ?_)
          refine OpsT.cons (Does.yi (Yl.load (d := 28) (T := 3) (v := .int .i64 (gt y2 (wi64 ((y2.length : Int) - 1)))) (by kernel_rfl) (ldR ty3 (v := .int .i64 (gt y2 (wi64 ((y2.length : Int) - 1)))) 0 (fun w hC => hr17 w0 w _ hC) (by kernel_rfl))) hI ?_)
          refine OpsT.pures (r := []) [21, 22] [3, 30] (S' := [(3, .slice A3 y2.length cp4), (30, .bool ((gt y2 (wi64 ((y2.length : Int) - 1))) == 32))]) (by kernel_rfl) ?_
          refine OpsT.done ?_
          have e := someS h1
          subst e
          exact Qn.thenJ fun a ha => ⟨(gt y2 (wi64 ((y2.length : Int) - 1))) == 32, rfl, ha.keep [3, 30] (by kernel_rfl), hI⟩
  ·
    rintro a w ⟨x5, rfl, ha, hI⟩
    try dsimp only at h0
    refine CodT.of ?_ ha
    by_cases hb19 : x5 = true
    · rw [if_pos hb19] at h0
      refine CodT.yes' (b := x5) (by kernel_rfl) hb19 ?_
      refine CodT.seq ?_
      refine CodT.regionL [0] (by kernel_rfl) ?_
      refine OpsT.pures (r := []) [0] [2] (S' := [(2, .bool false)]) (by kernel_rfl) ?_
      refine OpsT.done ?_
      refine Qn.then ?_
      refine CodT.ret ?_
      refine Qn.ret_then ?_
      have hI := hI.drop
      have e := someS h0
      subst e
      refine Qn.keep [2] (S' := [(2, .bool false)]) (by kernel_rfl) ?_
      exact post_ret (v := .bool false) (fun a ha => RunRes.run (vs := [.bool false]) (.tmp (t := 2) (by kernel_rfl) .nil) ha (by kernel_rfl)) ⟨rfl, hI⟩
    · rw [if_neg hb19] at h0
      refine CodT.no' (b := x5) (by kernel_rfl) (by simpa using hb19) ?_
      refine CodT.skip ?_
      refine Qn.then ?_
      refine CodT.seq ?_
      refine CodT.seq ?_
      refine CodT.regionL [0] (by kernel_rfl) ?_
      refine OpsT.pures (r := []) [0] [3, 4] (S' := [(3, .slice A3 y2.length cp4), (4, .int .i64 0)]) (by kernel_rfl) ?_
      refine OpsT.done ?_
      refine Qn.then ?_
      obtain ⟨r1, h1, h0⟩ := bindS h0
      refine CodT.meet1 (fun a w => .inr () = r1 ∧ Fr 63 [] a ∧ Inv w0 Z w A) ?_ ?_
      ·
        refine CodT.block ?_
        refine (fun a ha => wp_loopN (fun k a w => ∃ (x20 : Int), ref03_Valid.l0 y2 k x20 = some r1 ∧ Fr 63 [(3, .slice A3 y2.length cp4), (4, .int .i64 x20)] a ∧ Inv w0 Z w (star (ownS 3 (cI .i64) 1 A3 cp4 y2) A)) ?_ FU a w ⟨0, h1, ha.keep [3, 4] (by kernel_rfl), hI⟩)
        clear h1 hI
        rintro k a w ⟨x20, h1, ha, hI⟩
        rcases k with _ | k
        · cases h1
        simp only [ref03_Valid.l0] at h1
        refine CodT.of ?_ ha
        refine CodT.seq ?_
        refine CodT.seq ?_
        refine CodT.regionL [0, 1, 2, 3] (by kernel_rfl) ?_
        refine OpsT.pures (r := []) [0, 1, 2, 3] [3, 4, 34] (S' := [(3, .slice A3 y2.length cp4), (4, .int .i64 x20), (34, .bool (decide (x20 < (y2.length : Int))))]) (by kernel_rfl) ?_
        refine OpsT.done ?_
        refine Qn.then ?_
        by_cases hb21 : (decide (x20 < (y2.length : Int))) = true
        · rw [if_pos hb21] at h1
          refine CodT.yes' (b := decide (x20 < (y2.length : Int))) (by kernel_rfl) hb21 ?_
          refine CodT.skip ?_
          refine Qn.then ?_
          refine CodT.seq ?_
          refine CodT.block ?_
          refine CodT.seq ?_
          refine CodT.regionL [0, 1, 2, 3, 4] (by kernel_rfl) ?_
          refine OpsT.pures (r := [2, 3, 4]) [0, 1] [3, 4, 37, 38] (S' := [(3, .slice A3 y2.length cp4), (4, .int .i64 x20), (37, .slice A3 y2.length cp4), (38, .int .i64 x20)]) (by kernel_rfl) ?_
          obtain ⟨hg22, h1⟩ := guardS h1
          obtain ⟨g23, hA24, hr25, hl26⟩ := ownS_get hI hg22.1 hg22.2
          refine OpsT.cons (Does.yi (Yl.indexSlice (d := 39) (T := 23) (cc := cp4) (k := .i64) (j := x20) (g := g23) (o := 0) (by kernel_rfl) Go.Proofs.Try.underlying23 ty3 hA24 hg22.1 hg22.2) hI ?_)
          refine OpsT.cons (Does.yi (Yl.load (d := 40) (T := 3) (v := .int .i64 (gt y2 x20)) (by kernel_rfl) (ldR ty3 (v := .int .i64 (gt y2 x20)) 0 (fun w hC => hr25 w0 w _ hC) (by kernel_rfl))) hI ?_)
          refine OpsT.pures (r := []) [4] [3, 4, 5] (S' := [(3, .slice A3 y2.length cp4), (4, .int .i64 x20), (5, .int .i64 (gt y2 x20))]) (by kernel_rfl) ?_
          refine OpsT.done ?_
          refine Qn.then ?_
          obtain ⟨r2, h2, h1⟩ := bindS h1
          refine CodT.meet (fun a w => ∃ (x27 : Bool), x27 = r2 ∧ Fr 63 [(3, .slice A3 y2.length cp4), (4, .int .i64 x20), (62, .bool x27)] a ∧ Inv w0 Z w (star (ownS 3 (cI .i64) 1 A3 cp4 y2) A)) ?_ ?_
          ·
            refine CodT.regionL [0, 1, 2, 3, 4, 5, 6, 7, 8, 9, 10, 11, 12, 13, 14, 15, 16, 17, 18, 19, 20, 21] (by kernel_rfl) ?_
            refine OpsT.pures (r := [3, 4, 5, 6, 7, 8, 9, 10, 11, 12, 13, 14, 15, 16, 17, 18, 19, 20, 21]) [0, 1, 2] [3, 4, 5, 43] (S' := [(3, .slice A3 y2.length cp4), (4, .int .i64 x20), (5, .int .i64 (gt y2 x20)), (43, .bool (decide ((gt y2 x20) < 32)))]) (by kernel_rfl) ?_
            by_cases hb28 : (decide ((gt y2 x20) < 32)) = true
            · rw [if_pos hb28] at h2
              refine OpsT.keep [3, 4, 5, 43] (S' := [(3, .slice A3 y2.length cp4), (4, .int .i64 x20), (5, .int .i64 (gt y2 x20)), (43, .bool true)]) (by (try simp only [hb28]); kernel_rfl) ?_
              refine OpsT.pures (r := []) [3, 4, 5, 6, 7, 8, 9, 10, 11, 12, 13, 14, 15, 16, 17, 18, 19, 20, 21] [3, 4, 62] (S' := [(3, .slice A3 y2.length cp4), (4, .int .i64 x20), (62, .bool true)]) (by kernel_rfl) ?_
              refine OpsT.done ?_
              have e := someS h2
              subst e
              exact Qn.thenJ fun a ha => ⟨true, rfl, ha.keep [3, 4, 62] (by kernel_rfl), hI⟩
            · rw [if_neg hb28] at h2
              have hb28 : (decide ((gt y2 x20) < 32)) = false := by simpa using hb28
              refine OpsT.keep [3, 4, 5, 43] (S' := [(3, .slice A3 y2.length cp4), (4, .int .i64 x20), (5, .int .i64 (gt y2 x20)), (43, .bool false)]) (by (try simp only [hb28]); kernel_rfl) ?_
              refine OpsT.pures (r := [7, 8, 9, 10, 11, 12, 13, 14, 15, 16, 17, 18, 19, 20, 21]) [3, 4, 5, 6] [3, 4, 5, 47] (S' := [(3, .slice A3 y2.length cp4), (4, .int .i64 x20), (5, .int .i64 (gt y2 x20)), (47, .bool ((gt y2 x20) == 47))]) (by kernel_rfl) ?_
              by_cases hb29 : ((gt y2 x20) == 47) = true
              · rw [if_pos hb29] at h2
                refine OpsT.keep [3, 4, 5, 47] (S' := [(3, .slice A3 y2.length cp4), (4, .int .i64 x20), (5, .int .i64 (gt y2 x20)), (47, .bool true)]) (by (try simp only [hb29]); kernel_rfl) ?_
                refine OpsT.pures (r := []) [7, 8, 9, 10, 11, 12, 13, 14, 15, 16, 17, 18, 19, 20, 21] [3, 4, 62] (S' := [(3, .slice A3 y2.length cp4), (4, .int .i64 x20), (62, .bool true)]) (by kernel_rfl) ?_
                refine OpsT.done ?_
                have e := someS h2
                subst e
                exact Qn.thenJ fun a ha => ⟨true, rfl, ha.keep [3, 4, 62] (by kernel_rfl), hI⟩
              · rw [if_neg hb29] at h2
                have hb29 : ((gt y2 x20) == 47) = false := by simpa using hb29
                refine OpsT.keep [3, 4, 5, 47] (S' := [(3, .slice A3 y2.length cp4), (4, .int .i64 x20), (5, .int .i64 (gt y2 x20)), (47, .bool false)]) (by (try simp only [hb29]); kernel_rfl) ?_
                refine OpsT.pures (r := [10, 11, 12, 13, 14, 15, 16, 17, 18, 19, 20, 21]) [7, 8, 9] [3, 4, 5, 47, 50] (S' := [(3, .slice A3 y2.length cp4), (4, .int .i64 x20), (5, .int .i64 (gt y2 x20)), (47, .bool false), (50, .bool (decide ((gt y2 x20) ≥ 127)))]) (by kernel_rfl) ?_
                by_cases hb30 : (decide ((gt y2 x20) ≥ 127)) = true
                · rw [if_pos hb30] at h2
                  refine OpsT.keep [3, 4, 5, 47, 50] (S' := [(3, .slice A3 y2.length cp4), (4, .int .i64 x20), (5, .int .i64 (gt y2 x20)), (47, .bool false), (50, .bool true)]) (by (try simp only [hb30]); kernel_rfl) ?_
                  refine OpsT.pures (r := [15, 16, 17, 18, 19, 20, 21]) [10, 11, 12, 13, 14] [3, 4, 5, 55] (S' := [(3, .slice A3 y2.length cp4), (4, .int .i64 x20), (5, .int .i64 (gt y2 x20)), (55, .bool (decide ((gt y2 x20) ≤ 159)))]) (by kernel_rfl) ?_
                  by_cases hb31 : (decide ((gt y2 x20) ≤ 159)) = true
                  · rw [if_pos hb31] at h2
                    refine OpsT.keep [3, 4, 5, 55] (S' := [(3, .slice A3 y2.length cp4), (4, .int .i64 x20), (5, .int .i64 (gt y2 x20)), (55, .bool true)]) (by (try simp only [hb31]); kernel_rfl) ?_
                    refine OpsT.pures (r := []) [15, 16, 17, 18, 19, 20, 21] [3, 4, 62] (S' := [(3, .slice A3 y2.length cp4), (4, .int .i64 x20), (62, .bool true)]) (by kernel_rfl) ?_
                    refine OpsT.done ?_
                    have e := someS h2
                    subst e
                    exact Qn.thenJ fun a ha => ⟨true, rfl, ha.keep [3, 4, 62] (by kernel_rfl), hI⟩
                  · rw [if_neg hb31] at h2
                    have hb31 : (decide ((gt y2 x20) ≤ 159)) = false := by simpa using hb31
                    refine OpsT.keep [3, 4, 5, 55] (S' := [(3, .slice A3 y2.length cp4), (4, .int .i64 x20), (5, .int .i64 (gt y2 x20)), (55, .bool false)]) (by (try simp only [hb31]); kernel_rfl) ?_
                    refine OpsT.pures (r := [19, 20, 21]) [15, 16, 17, 18] [3, 4, 5, 59] (S' := [(3, .slice A3 y2.length cp4), (4, .int .i64 x20), (5, .int .i64 (gt y2 x20)), (59, .bool ((gt y2 x20) == 65533))]) (by kernel_rfl) ?_
                    by_cases hb32 : ((gt y2 x20) == 65533) = true
                    · rw [if_pos hb32] at h2
                      refine OpsT.keep [3, 4, 5, 59] (S' := [(3, .slice A3 y2.length cp4), (4, .int .i64 x20), (5, .int .i64 (gt y2 x20)), (59, .bool true)]) (by (try simp only [hb32]); kernel_rfl) ?_
                      refine OpsT.pures (r := []) [19, 20, 21] [3, 4, 62] (S' := [(3, .slice A3 y2.length cp4), (4, .int .i64 x20), (62, .bool true)]) (by kernel_rfl) ?_
                      refine OpsT.done ?_
                      have e := someS h2
                      subst e
                      exact Qn.thenJ fun a ha => ⟨true, rfl, ha.keep [3, 4, 62] (by kernel_rfl), hI⟩
                    · rw [if_neg hb32] at h2
                      have hb32 : ((gt y2 x20) == 65533) = false := by simpa using hb32
                      refine OpsT.keep [3, 4, 5, 59] (S' := [(3, .slice A3 y2.length cp4), (4, .int .i64 x20), (5, .int .i64 (gt y2 x20)), (59, .bool false)]) (by (try simp only [hb32]); kernel_rfl) ?_
                      refine OpsT.pures (r := []) [19, 20, 21] [3, 4, 62] (S' := [(3, .slice A3 y2.length cp4), (4, .int .i64 x20), (62, .bool (decide ((gt y2 x20) ≥ 1114112)))]) (by kernel_rfl) ?_
                      refine OpsT.done ?_
                      have e := someS h2
                      subst e
                      exact Qn.thenJ fun a ha => ⟨decide ((gt y2 x20) ≥ 1114112), rfl, ha.keep [3, 4, 62] (by kernel_rfl), hI⟩
                · rw [if_neg hb30] at h2
                  have hb30 : (decide ((gt y2 x20) ≥ 127)) = false := by simpa using hb30
                  refine OpsT.keep [3, 4, 5, 47, 50] (S' := [(3, .slice A3 y2.length cp4), (4, .int .i64 x20), (5, .int .i64 (gt y2 x20)), (47, .bool false), (50, .bool false)]) (by (try simp only [hb30]); kernel_rfl) ?_
                  refine OpsT.pures (r := [19, 20, 21]) [10, 11, 12, 13, 14, 15, 16, 17, 18] [3, 4, 5, 59] (S' := [(3, .slice A3 y2.length cp4), (4, .int .i64 x20), (5, .int .i64 (gt y2 x20)), (59, .bool ((gt y2 x20) == 65533))]) (by kernel_rfl) ?_
                  by_cases hb33 : ((gt y2 x20) == 65533) = true
                  · rw [if_pos hb33] at h2
                    refine OpsT.keep [3, 4, 5, 59] (S' := [(3, .slice A3 y2.length cp4), (4, .int .i64 x20), (5, .int .i64 (gt y2 x20)), (59, .bool true)]) (by (try simp only [hb33]); kernel_rfl) ?_
                    refine OpsT.pures (r := []) [19, 20, 21] [3, 4, 62] (S' := [(3, .slice A3 y2.length cp4), (4, .int .i64 x20), (62, .bool true)]) (by kernel_rfl) ?_
                    refine OpsT.done ?_
                    have e := someS h2
                    subst e
                    exact Qn.thenJ fun a ha => ⟨true, rfl, ha.keep [3, 4, 62] (by kernel_rfl), hI⟩
                  · rw [if_neg hb33] at h2
                    have hb33 : ((gt y2 x20) == 65533) = false := by simpa using hb33
                    refine OpsT.keep [3, 4, 5, 59] (S' := [(3, .slice A3 y2.length cp4), (4, .int .i64 x20), (5, .int .i64 (gt y2 x20)), (59, .bool false)]) (by (try simp only [hb33]); kernel_rfl) ?_
                    refine OpsT.pures (r := []) [19, 20, 21] [3, 4, 62] (S' := [(3, .slice A3 y2.length cp4), (4, .int .i64 x20), (62, .bool (decide ((gt y2 x20) ≥ 1114112)))]) (by kernel_rfl) ?_
                    refine OpsT.done ?_
                    have e := someS h2
                    subst e
                    exact Qn.thenJ fun a ha => ⟨decide ((gt y2 x20) ≥ 1114112), rfl, ha.keep [3, 4, 62] (by kernel_rfl), hI⟩
          ·
            rintro a w ⟨x27, rfl, ha, hI⟩
            try dsimp only at h1
            refine CodT.of ?_ ha
            by_cases hb34 : x27 = true
            · rw [if_pos hb34] at h1
              refine CodT.yes' (b := x27) (by kernel_rfl) hb34 ?_
              refine CodT.seq ?_
              refine CodT.regionL [0] (by kernel_rfl) ?_
              refine OpsT.pures (r := []) [0] [2] (S' := [(2, .bool false)]) (by kernel_rfl) ?_
              refine OpsT.done ?_
              refine Qn.then ?_
              refine CodT.ret ?_
              refine Qn.block_ret ?_
              refine Qn.ret_then ?_
              refine Qn.ret_then ?_
              refine Qn.block_ret ?_
              refine Qn.ret_then ?_
              refine Qn.ret_then ?_
              have hI := hI.drop
              have e := someS h1
              subst e
              try dsimp only at h0
              have e := someS h0
              subst e
              refine Qn.keep [2] (S' := [(2, .bool false)]) (by kernel_rfl) ?_
              exact post_ret (v := .bool false) (fun a ha => RunRes.run (vs := [.bool false]) (.tmp (t := 2) (by kernel_rfl) .nil) ha (by kernel_rfl)) ⟨rfl, hI⟩
            · rw [if_neg hb34] at h1
              refine CodT.no' (b := x27) (by kernel_rfl) (by simpa using hb34) ?_
              refine CodT.skip ?_
              refine Qn.block_normal ?_
              refine Qn.then ?_
              refine CodT.regionL [0, 1, 2] (by kernel_rfl) ?_
              refine OpsT.pures (r := []) [0, 1, 2] [3, 4] (S' := [(3, .slice A3 y2.length cp4), (4, .int .i64 (wi64 (x20 + 1)))]) (by kernel_rfl) ?_
              refine OpsT.done ?_
              exact Qn.thenJ fun a ha => ⟨k, Nat.lt_succ_self k, wi64 (x20 + 1), h1, ha.keep [3, 4] (by kernel_rfl), hI⟩
        · rw [if_neg hb21] at h1
          refine CodT.no' (b := decide (x20 < (y2.length : Int))) (by kernel_rfl) (by simpa using hb21) ?_
          refine CodT.exit ?_
          refine Qn.exit_then ?_
          refine Qn.exit_then ?_
          refine Qn.block ?_
          have hI := hI.drop
          have e := someS h1
          subst e
          exact Qn.thenJ fun a ha => ⟨rfl, ha.keep [] (by kernel_rfl), hI⟩
      ·
        rintro a w ⟨rfl, ha, hI⟩
        try dsimp only at h0
        refine Qn.of ?_ ha
        refine Qn.then ?_
        refine CodT.seq ?_
        refine CodT.regionL [0] (by kernel_rfl) ?_
        refine OpsT.pures (r := []) [0] [2] (S' := [(2, .bool true)]) (by kernel_rfl) ?_
        refine OpsT.done ?_
        refine Qn.then ?_
        refine CodT.ret ?_
        have e := someS h0
        subst e
        refine Qn.keep [2] (S' := [(2, .bool true)]) (by kernel_rfl) ?_
        exact post_ret (v := .bool true) (fun a ha => RunRes.run (vs := [.bool true]) (.tmp (t := 2) (by kernel_rfl) .nil) ha (by kernel_rfl)) ⟨rfl, hI⟩
end Go.Cen
