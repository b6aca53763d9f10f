/- That the machine computes these: walks, printed by a program of ours. -/
import Derived.Test.YthdoklobbcedcadPx
import Derived.Test.YthdoklobbcedcadWx1
set_option linter.unusedVariables false
set_option linter.unusedSimpArgs false
namespace Go.Cen
set_option maxRecDepth 100000 in
set_option maxHeartbeats 4000000 in
/-- cenotaph/cenotaphlaw05.works -/
theorem c9 (w0 w : World) (Z : Hp) (A : HP) (hI : Inv w0 Z w A)  (r : Bool) (h0 : law05_works = some r) :
    Calls prog 9 #[] w (fun e w' => e = .returned (.bool r) ∧ Inv w0 Z w' A) := by
  have e4 := calls_intro (R := (fun e w' => e = .returned (.bool r) ∧ Inv w0 Z w' A)) (w := w) (args := []) (fn := Go.Proofs.Try.f9) 73 Go.Proofs.Try.func9 (by rfl) Go.Proofs.Try.ntmps9 (by kernel_rfl)
  refine e4 ?_
  clear e4
  unfold law05_works at h0
  refine CodT.seq ?_
  refine CodT.regionL [0] (by kernel_rfl) ?_
  refine OpsT.pures (r := []) [0] [] (S' := []) (by kernel_rfl) ?_
  refine OpsT.done ?_
  refine Qn.then ?_
  refine CodT.seq ?_
  refine CodT.regionL [0, 1, 2] (by kernel_rfl) ?_
  refine OpsT.pures (r := [1, 2]) [0] [8] (S' := [(8, .agg (c_ApiEvent (ApiEvent.mk 0 1 (⟨#[97]⟩ : ByteArray) 0 0 (List.replicate 32 (0 : Int)))).toArray)]) (by kernel_rfl) ?_
  refine OpsT.cons (Does.allocL (d := 1) (T := 26) (c_ApiEvent (ApiEvent.mk 0 0 (⟨#[]⟩ : ByteArray) 0 0 (List.replicate 32 (0 : Int)))) (by kernel_rfl) ty26 hI (by kernel_rfl) ?_)
  intro b1 w hI
  refine OpsT.cons (Does.storeLit (T := 26) (b := b1) (o := 0) (v := .agg (c_ApiEvent (ApiEvent.mk 0 1 (⟨#[97]⟩ : ByteArray) 0 0 (List.replicate 32 (0 : Int)))).toArray) (l := c_ApiEvent (ApiEvent.mk 0 0 (⟨#[]⟩ : ByteArray) 0 0 (List.replicate 32 (0 : Int)))) (vs := c_ApiEvent (ApiEvent.mk 0 1 (⟨#[97]⟩ : ByteArray) 0 0 (List.replicate 32 (0 : Int)))) (L' := c_ApiEvent (ApiEvent.mk 0 1 (⟨#[97]⟩ : ByteArray) 0 0 (List.replicate 32 (0 : Int)))) (by kernel_rfl) ty26 hI (by kernel_rfl) (len_ApiEvent _ (by kernel_rfl)) (by rw [(len_ApiEvent _ (by kernel_rfl))]; kernel_rfl) (ones_app _ _ (by kernel_rfl) (ones_cA _)) (lset_all _ _ (Eq.trans (len_ApiEvent _ (by kernel_rfl)) (Eq.symm (len_ApiEvent _ (by kernel_rfl))))) ?_)
  intro w hI
  refine OpsT.done ?_
  refine Qn.then ?_
  refine CodT.seq ?_
  refine CodT.regionL [0, 1, 2, 3, 4, 5, 6] (by kernel_rfl) ?_
  refine OpsT.cons (Does.yi (Yl.load (d := 10) (T := 26) (v := .agg (c_ApiEvent (ApiEvent.mk 0 1 (⟨#[97]⟩ : ByteArray) 0 0 (List.replicate 32 (0 : Int)))).toArray) (by kernel_rfl) (ldBN ty26 (l := c_ApiEvent (ApiEvent.mk 0 1 (⟨#[97]⟩ : ByteArray) 0 0 (List.replicate 32 (0 : Int)))) (o := 0) (cs := c_ApiEvent (ApiEvent.mk 0 1 (⟨#[97]⟩ : ByteArray) 0 0 (List.replicate 32 (0 : Int)))) (ent_refl _) (len_ApiEvent _ (by kernel_rfl)) (whole _ _ (len_ApiEvent _ (by kernel_rfl))))) hI ?_)
  obtain ⟨⟨y3, y4⟩, hc2, h0⟩ := bindS h0
  try dsimp only at h0
  refine OpsT.cons (Does.call (d := some 11) (n := 10) (vs := [.agg (c_ApiEvent (ApiEvent.mk 0 1 (⟨#[97]⟩ : ByteArray) 0 0 (List.replicate 32 (0 : Int)))).toArray]) (by kernel_rfl) en10 (c10 w0 w _ _ hI (ApiEvent.mk 0 1 (⟨#[97]⟩ : ByteArray) 0 0 (List.replicate 32 (0 : Int))) (by kernel_rfl) _ hc2) ?_)
  rintro e w ⟨rfl, hI⟩
  refine ⟨_, rfl, ?_⟩
  refine OpsT.pures (r := []) [2, 3, 4, 5, 6] [1, 2, 3] (S' := [(1, .pointer (some ⟨b1, 0, none⟩)), (2, .string y3), (3, .bool y4)]) (by kernel_rfl) ?_
  refine OpsT.done ?_
  refine Qn.then ?_
  refine CodT.seq ?_
  refine CodT.regionL [0, 1, 2, 3, 4, 5, 6, 7, 8, 9, 10] (by kernel_rfl) ?_
  refine OpsT.pures (r := [1, 2, 3, 4, 5, 6, 7, 8, 9, 10]) [0] [1, 2, 3, 15] (S' := [(1, .pointer (some ⟨b1, 0, none⟩)), (2, .string y3), (3, .bool y4), (15, .string y3)]) (by kernel_rfl) ?_
  obtain ⟨hg5, h0⟩ := guardS h0
  refine OpsT.cons (Does.yi (Yl.cat (d := 16) (T := 9) (x := y3) (y := (⟨#[122]⟩ : ByteArray)) (by kernel_rfl) hg5) hI ?_)
  obtain ⟨⟨y7, y9, y10⟩, hc6, h0⟩ := bindS h0
  try dsimp only at h0
  refine OpsT.cons (Does.call (d := some 17) (n := 16) (vs := [.string (y3 ++ (⟨#[122]⟩ : ByteArray))]) (by kernel_rfl) en16 (c16 w0 w _ _ hI (y3 ++ (⟨#[122]⟩ : ByteArray)) _ hc6) ?_)
  rintro e w ⟨rfl, hl8, hI⟩
  refine ⟨_, rfl, ?_⟩
  refine OpsT.pures (r := [7, 8, 9, 10]) [3, 4, 5, 6] [1, 2, 3, 18, 19, 20] (S' := [(1, .pointer (some ⟨b1, 0, none⟩)), (2, .string y3), (3, .bool y4), (18, .agg (c_ApiEvent y7).toArray), (19, .string y9), (20, .bool y10)]) (by kernel_rfl) ?_
  refine OpsT.cons (Does.allocL (d := 4) (T := 26) (c_ApiEvent (ApiEvent.mk 0 0 (⟨#[]⟩ : ByteArray) 0 0 (List.replicate 32 (0 : Int)))) (by kernel_rfl) ty26 hI (by kernel_rfl) ?_)
  intro b11 w hI
  refine OpsT.cons (Does.storeLit (T := 26) (b := b11) (o := 0) (v := .agg (c_ApiEvent y7).toArray) (l := c_ApiEvent (ApiEvent.mk 0 0 (⟨#[]⟩ : ByteArray) 0 0 (List.replicate 32 (0 : Int)))) (vs := c_ApiEvent y7) (L' := c_ApiEvent y7) (by kernel_rfl) ty26 hI (by kernel_rfl) (len_ApiEvent _ hl8) (by rw [(len_ApiEvent _ (by kernel_rfl))]; kernel_rfl) (ones_app _ _ (by kernel_rfl) (ones_cA _)) (lset_all _ _ (Eq.trans (len_ApiEvent _ hl8) (Eq.symm (len_ApiEvent _ (by kernel_rfl))))) ?_)
  intro w hI
  refine OpsT.pures (r := []) [9, 10] [1, 2, 3, 4, 5, 6] (S' := [(1, .pointer (some ⟨b1, 0, none⟩)), (2, .string y3), (3, .bool y4), (4, .pointer (some ⟨b11, 0, none⟩)), (5, .string y9), (6, .bool y10)]) (by kernel_rfl) ?_
  refine OpsT.done ?_
  refine Qn.then ?_
  refine CodT.seq ?_
  refine CodT.regionL [0, 1, 2, 3, 4, 5] (by kernel_rfl) ?_
  refine OpsT.cons (Does.yi (Yl.load (d := 21) (T := 26) (v := .agg (c_ApiEvent (ApiEvent.mk 0 1 (⟨#[97]⟩ : ByteArray) 0 0 (List.replicate 32 (0 : Int)))).toArray) (by kernel_rfl) (ldBN ty26 (l := c_ApiEvent (ApiEvent.mk 0 1 (⟨#[97]⟩ : ByteArray) 0 0 (List.replicate 32 (0 : Int)))) (o := 0) (cs := c_ApiEvent (ApiEvent.mk 0 1 (⟨#[97]⟩ : ByteArray) 0 0 (List.replicate 32 (0 : Int)))) (pick2 _ _ _) (len_ApiEvent _ (by kernel_rfl)) (whole _ _ (len_ApiEvent _ (by kernel_rfl))))) hI ?_)
  refine OpsT.pures (r := [3, 4, 5]) [1, 2] [1, 2, 3, 4, 5, 6, 21, 22, 23] (S' := [(1, .pointer (some ⟨b1, 0, none⟩)), (2, .string y3), (3, .bool y4), (4, .pointer (some ⟨b11, 0, none⟩)), (5, .string y9), (6, .bool y10), (21, .agg (c_ApiEvent (ApiEvent.mk 0 1 (⟨#[97]⟩ : ByteArray) 0 0 (List.replicate 32 (0 : Int)))).toArray), (22, .agg (c_ApiEvent (ApiEvent.mk 7 0 (⟨#[]⟩ : ByteArray) 0 0 (List.replicate 32 (0 : Int)))).toArray), (23, .agg (c_ApiEvent (ApiEvent.mk 6 1 (⟨#[]⟩ : ByteArray) 0 0 (List.replicate 32 (0 : Int)))).toArray)]) (by kernel_rfl) ?_
  refine OpsT.cons (Does.buildSliceAll (en := c_ApiEvent) (d := 24) (n := 3) (T := 40) (ps := [(0, .agg (c_ApiEvent (ApiEvent.mk 0 1 (⟨#[97]⟩ : ByteArray) 0 0 (List.replicate 32 (0 : Int)))).toArray), (1, .agg (c_ApiEvent (ApiEvent.mk 7 0 (⟨#[]⟩ : ByteArray) 0 0 (List.replicate 32 (0 : Int)))).toArray), (2, .agg (c_ApiEvent (ApiEvent.mk 6 1 (⟨#[]⟩ : ByteArray) 0 0 (List.replicate 32 (0 : Int)))).toArray)]) (fun y => .agg (c_ApiEvent y).toArray) (fun _ => rfl) ([(ApiEvent.mk 0 1 (⟨#[97]⟩ : ByteArray) 0 0 (List.replicate 32 (0 : Int))), (ApiEvent.mk 7 0 (⟨#[]⟩ : ByteArray) 0 0 (List.replicate 32 (0 : Int))), (ApiEvent.mk 6 1 (⟨#[]⟩ : ByteArray) 0 0 (List.replicate 32 (0 : Int)))] : List ApiEvent) (by kernel_rfl) rfl Go.Proofs.Try.underlying40 ty26 rfl (by kernel_rfl) (by kernel_rfl) (by decide +kernel) (List.forall_mem_cons.2 ⟨(len_ApiEvent _ (by kernel_rfl)), (List.forall_mem_cons.2 ⟨(len_ApiEvent _ (by kernel_rfl)), (List.forall_mem_cons.2 ⟨(len_ApiEvent _ (by kernel_rfl)), (fun _ h => by cases h)⟩)⟩)⟩) hI ?_)
  intro b12 w hI
  obtain ⟨Z13, hle14, hr15, hI⟩ := ownS_freeze hI
  obtain ⟨y17, hc16, h0⟩ := bindS h0
  try dsimp only at h0
  refine OpsT.cons (Does.call (d := some 25) (n := 18) (vs := [.slice (some ⟨b12, 0, none⟩) (([(ApiEvent.mk 0 1 (⟨#[97]⟩ : ByteArray) 0 0 (List.replicate 32 (0 : Int))), (ApiEvent.mk 7 0 (⟨#[]⟩ : ByteArray) 0 0 (List.replicate 32 (0 : Int))), (ApiEvent.mk 6 1 (⟨#[]⟩ : ByteArray) 0 0 (List.replicate 32 (0 : Int)))] : List ApiEvent).length) 3]) (by kernel_rfl) en18 (c18 w0 w _ _ hI (some ⟨b12, 0, none⟩) 3 ([(ApiEvent.mk 0 1 (⟨#[97]⟩ : ByteArray) 0 0 (List.replicate 32 (0 : Int))), (ApiEvent.mk 7 0 (⟨#[]⟩ : ByteArray) 0 0 (List.replicate 32 (0 : Int))), (ApiEvent.mk 6 1 (⟨#[]⟩ : ByteArray) 0 0 (List.replicate 32 (0 : Int)))] : List ApiEvent) hr15 _ hc16) ?_)
  rintro e w ⟨A18, cp19, rfl, hI⟩
  refine ⟨_, rfl, ?_⟩
  refine OpsT.pures (r := []) [5] [1, 2, 3, 4, 5, 6, 7] (S' := [(1, .pointer (some ⟨b1, 0, none⟩)), (2, .string y3), (3, .bool y4), (4, .pointer (some ⟨b11, 0, none⟩)), (5, .string y9), (6, .bool y10), (7, .slice A18 y17.length cp19)]) (by kernel_rfl) ?_
  refine OpsT.done ?_
  refine Qn.then ?_
  obtain ⟨r1, h1, h0⟩ := bindS h0
  refine CodT.meet (fun a w => ∃ (x20 : Bool), x20 = r1 ∧ Fr 73 [(0, .bool x20)] a ∧ Inv w0 Z13 w A) ?_ ?_
  ·
    refine CodT.drawI (n := 48) [] (by kernel_rfl) (by kernel_rfl) hI ?_
    intro w hI
    refine GmT.p' 0 26 (.string y3) (by kernel_rfl) (by kernel_rfl) ?_
    refine GmT.o (i := 1) (by kernel_rfl) (Does.buildSlice (en := (cI .u8)) (d := 27) (n := 4) (T := 41) (ps := [(0, .int .u8 0), (1, .int .u8 1), (2, .int .u8 1), (3, .int .u8 97)]) ([0, 1, 1, 97] : List Int) (by kernel_rfl) Go.Proofs.Try.underlying41 ty5 (by kernel_rfl) (by kernel_rfl) (by kernel_rfl) (by kernel_rfl) (len_all (fun _ => rfl)) hI ?_)
    intro b21 w hI
    have hC := hI
    have hC := hC.drop
    refine ⟨fun _ _ => hC, ?_⟩
    refine GmT.o (i := 2) (by kernel_rfl) (Does.b2sOwn (d := 28) (src := 41) (dst := 9) (xs := ([0, 1, 1, 97] : List Int)) (by kernel_rfl) Go.Proofs.Try.underlying41 Go.Proofs.Try.underlying5 Go.Proofs.Try.underlying9 hI ?_)
    have hC := hI
    have hC := hC.drop
    refine ⟨fun _ _ => hC, ?_⟩
    refine GmT.p' 3 29 (.bool (seq y3 (strOfNums ([0, 1, 1, 97] : List Int)))) (by kernel_rfl) (by kernel_rfl) ?_
    refine GmT.p' 4 30 (.bool (seq y3 (strOfNums ([0, 1, 1, 97] : List Int)))) (by kernel_rfl) (by kernel_rfl) ?_
    by_cases hb22 : (seq y3 (strOfNums ([0, 1, 1, 97] : List Int))) = true
    · rw [if_pos hb22] at h1
      refine GmT.keep [1, 3, 4, 5, 6, 7, 30] (S' := [(1, .pointer (some ⟨b1, 0, none⟩)), (3, .bool y4), (4, .pointer (some ⟨b11, 0, none⟩)), (5, .string y9), (6, .bool y10), (7, .slice A18 y17.length cp19), (30, .bool true)]) (by (try simp only [hb22]); kernel_rfl) ?_
      refine GmT.p' 5 31 (.bool y4) (by kernel_rfl) (by kernel_rfl) ?_
      refine GmT.p' 6 32 (.bool y4) (by kernel_rfl) (by kernel_rfl) ?_
      refine GmT.p' 7 33 (.bool y4) (by kernel_rfl) (by kernel_rfl) ?_
      by_cases hb23 : y4 = true
      · rw [if_pos hb23] at h1
        refine GmT.keep [1, 4, 5, 6, 7, 33] (S' := [(1, .pointer (some ⟨b1, 0, none⟩)), (4, .pointer (some ⟨b11, 0, none⟩)), (5, .string y9), (6, .bool y10), (7, .slice A18 y17.length cp19), (33, .bool true)]) (by (try simp only [hb23]); kernel_rfl) ?_
        have hC := hI
        have hC := hC.drop
        refine GmT.r (i := 8) 2 (by kernel_rfl) (by kernel_rfl) (Yl.load (d := 34) (T := 26) (v := .agg (c_ApiEvent y7).toArray) (by kernel_rfl) (ldBN ty26 (l := c_ApiEvent y7) (o := 0) (cs := c_ApiEvent y7) (pick2 _ _ _) (len_ApiEvent _ hl8) (whole _ _ (len_ApiEvent _ hl8)))) hC ?_
        have hC := hI
        have hC := hC.drop
        refine GmT.r (i := 9) 2 (by kernel_rfl) (by kernel_rfl) (Yl.load (d := 35) (T := 26) (v := .agg (c_ApiEvent (ApiEvent.mk 0 1 (⟨#[97]⟩ : ByteArray) 0 0 (List.replicate 32 (0 : Int)))).toArray) (by kernel_rfl) (ldBN ty26 (l := c_ApiEvent (ApiEvent.mk 0 1 (⟨#[97]⟩ : ByteArray) 0 0 (List.replicate 32 (0 : Int)))) (o := 0) (cs := c_ApiEvent (ApiEvent.mk 0 1 (⟨#[97]⟩ : ByteArray) 0 0 (List.replicate 32 (0 : Int)))) (pick3 _ _ _ _) (len_ApiEvent _ (by kernel_rfl)) (whole _ _ (len_ApiEvent _ (by kernel_rfl))))) hC ?_
        have hC := hI
        have hC := hC.drop
        refine GmT.r (i := 10) 2 (by kernel_rfl) (by kernel_rfl) (Yl.eqlS (d := 36) (T := 26) (xs := ([.int .i64 y7.Kind, .int .i64 y7.ID, .string y7.Name, .int .i64 y7.Time, .int .i64 y7.Len] : List Value) ++ (cA (Value.int .u8) y7.Sum)) (ys := ([.int .i64 0, .int .i64 1, .string (⟨#[97]⟩ : ByteArray), .int .i64 0, .int .i64 0] : List Value) ++ (cA (Value.int .u8) (List.replicate 32 (0 : Int)))) (r := eq_ApiEvent y7 (ApiEvent.mk 0 1 (⟨#[97]⟩ : ByteArray) 0 0 (List.replicate 32 (0 : Int)))) (by kernel_rfl) Go.Proofs.Try.underlying26 (by kernel_rfl) (by kernel_rfl) (.cons rfl (part1 (v := .int .i64 y7.Kind) ty22 (by kernel_rfl)) (part1 (v := .int .i64 0) ty22 (by kernel_rfl)) (eqI Go.Proofs.Try.underlying22) (.cons rfl (part1 (v := .int .i64 y7.ID) ty3 (by kernel_rfl)) (part1 (v := .int .i64 1) ty3 (by kernel_rfl)) (eqI Go.Proofs.Try.underlying3) (.cons rfl (part1 (v := .string y7.Name) ty9 (by kernel_rfl)) (part1 (v := .string (⟨#[97]⟩ : ByteArray)) ty9 (by kernel_rfl)) (eqS Go.Proofs.Try.underlying9) (.cons rfl (part1 (v := .int .i64 y7.Time) ty3 (by kernel_rfl)) (part1 (v := .int .i64 0) ty3 (by kernel_rfl)) (eqI Go.Proofs.Try.underlying3) (.cons rfl (part1 (v := .int .i64 y7.Len) ty3 (by kernel_rfl)) (part1 (v := .int .i64 0) ty3 (by kernel_rfl)) (eqI Go.Proofs.Try.underlying3) (.cons rfl (partN ty24 (tail_take _ _ _ _ _ (by kernel_rfl) hl8)) (partN ty24 (tail_take _ _ _ _ _ (by kernel_rfl) (by kernel_rfl))) (eqAr Go.Proofs.Try.underlying24 Go.Proofs.Try.underlying5 ty5 hl8 (by kernel_rfl)) .nil))))))) hC ?_
        refine GmT.p' 11 37 (.bool (eq_ApiEvent y7 (ApiEvent.mk 0 1 (⟨#[97]⟩ : ByteArray) 0 0 (List.replicate 32 (0 : Int))))) (by kernel_rfl) (by kernel_rfl) ?_
        refine GmT.p' 12 38 (.bool (eq_ApiEvent y7 (ApiEvent.mk 0 1 (⟨#[97]⟩ : ByteArray) 0 0 (List.replicate 32 (0 : Int))))) (by kernel_rfl) (by kernel_rfl) ?_
        by_cases hb24 : (eq_ApiEvent y7 (ApiEvent.mk 0 1 (⟨#[97]⟩ : ByteArray) 0 0 (List.replicate 32 (0 : Int)))) = true
        · rw [if_pos hb24] at h1
          refine GmT.keep [1, 5, 6, 7, 38] (S' := [(1, .pointer (some ⟨b1, 0, none⟩)), (5, .string y9), (6, .bool y10), (7, .slice A18 y17.length cp19), (38, .bool true)]) (by (try simp only [hb24]); kernel_rfl) ?_
          refine GmT.p' 13 39 (.string y9) (by kernel_rfl) (by kernel_rfl) ?_
          refine GmT.p' 14 40 (.bool (seq y9 (⟨#[122]⟩ : ByteArray))) (by kernel_rfl) (by kernel_rfl) ?_
          refine GmT.p' 15 41 (.bool (seq y9 (⟨#[122]⟩ : ByteArray))) (by kernel_rfl) (by kernel_rfl) ?_
          refine GmT.p' 16 42 (.bool (seq y9 (⟨#[122]⟩ : ByteArray))) (by kernel_rfl) (by kernel_rfl) ?_
          by_cases hb25 : (seq y9 (⟨#[122]⟩ : ByteArray)) = true
          · rw [if_pos hb25] at h1
            refine GmT.keep [1, 6, 7, 42] (S' := [(1, .pointer (some ⟨b1, 0, none⟩)), (6, .bool y10), (7, .slice A18 y17.length cp19), (42, .bool true)]) (by (try simp only [hb25]); kernel_rfl) ?_
            refine GmT.p' 17 43 (.bool y10) (by kernel_rfl) (by kernel_rfl) ?_
            refine GmT.p' 18 44 (.bool y10) (by kernel_rfl) (by kernel_rfl) ?_
            refine GmT.p' 19 45 (.bool y10) (by kernel_rfl) (by kernel_rfl) ?_
            by_cases hb26 : y10 = true
            · rw [if_pos hb26] at h1
              refine GmT.keep [1, 7, 45] (S' := [(1, .pointer (some ⟨b1, 0, none⟩)), (7, .slice A18 y17.length cp19), (45, .bool true)]) (by (try simp only [hb26]); kernel_rfl) ?_
              have hC := hI
              have hC := hC.drop
              refine GmT.r (i := 20) 2 (by kernel_rfl) (by kernel_rfl) (Yl.load (d := 46) (T := 26) (v := .agg (c_ApiEvent (ApiEvent.mk 0 1 (⟨#[97]⟩ : ByteArray) 0 0 (List.replicate 32 (0 : Int)))).toArray) (by kernel_rfl) (ldBN ty26 (l := c_ApiEvent (ApiEvent.mk 0 1 (⟨#[97]⟩ : ByteArray) 0 0 (List.replicate 32 (0 : Int)))) (o := 0) (cs := c_ApiEvent (ApiEvent.mk 0 1 (⟨#[97]⟩ : ByteArray) 0 0 (List.replicate 32 (0 : Int)))) (pick3 _ _ _ _) (len_ApiEvent _ (by kernel_rfl)) (whole _ _ (len_ApiEvent _ (by kernel_rfl))))) hC ?_
              refine GmT.several [21, 22] (by kernel_rfl) rfl ?_
              intro i hi; simp only [List.mem_cons, List.not_mem_nil, or_false] at hi; rcases hi with rfl | rfl
              ·
                obtain ⟨y28, hc27, h1⟩ := bindS h1
                try dsimp only at h1
                rw [lst_set]
                refine (Does.call (d := some 47) (n := 14) (vs := [.agg (c_ApiEvent (ApiEvent.mk 0 1 (⟨#[97]⟩ : ByteArray) 0 0 (List.replicate 32 (0 : Int)))).toArray]) (by kernel_rfl) en14 (c14 w0 w _ _ hI (ApiEvent.mk 0 1 (⟨#[97]⟩ : ByteArray) 0 0 (List.replicate 32 (0 : Int))) (by kernel_rfl) _ hc27) ?_)
                rintro e w ⟨rfl, hI⟩
                refine ⟨_, rfl, ?_⟩
                have hC := hI
                have hC := hC.drop
                refine ⟨fun _ _ => hC, ?_⟩
                refine GmT.o (i := 22) (by kernel_rfl) (Does.buildSlice (en := (cI .u8)) (d := 48) (n := 3) (T := 41) (ps := [(0, .int .u8 34), (1, .int .u8 97), (2, .int .u8 34)]) ([34, 97, 34] : List Int) (by kernel_rfl) Go.Proofs.Try.underlying41 ty5 (by kernel_rfl) (by kernel_rfl) (by kernel_rfl) (by kernel_rfl) (len_all (fun _ => rfl)) hI ?_)
                intro b29 w hI
                have hC := hI
                have hC := hC.drop
                have hC := hC.drop
                refine ⟨fun _ _ => hC, ?_⟩
                refine GmT.o (i := 23) (by kernel_rfl) (Does.b2sOwn (d := 49) (src := 41) (dst := 9) (xs := ([34, 97, 34] : List Int)) (by kernel_rfl) Go.Proofs.Try.underlying41 Go.Proofs.Try.underlying5 Go.Proofs.Try.underlying9 hI ?_)
                have hC := hI
                have hC := hC.drop
                have hC := hC.drop
                refine ⟨fun _ _ => hC, ?_⟩
                obtain ⟨hg30, h1⟩ := guardS h1
                have hC := hI
                have hC := hC.drop
                have hC := hC.drop
                refine GmT.r (i := 24) 2 (by kernel_rfl) (by kernel_rfl) (Yl.cat (d := 50) (T := 9) (x := (⟨#[99, 114, 101, 97, 116, 101, 32, 49, 32]⟩ : ByteArray)) (y := strOfNums ([34, 97, 34] : List Int)) (by kernel_rfl) hg30) hC ?_
                refine GmT.p' 25 51 (.bool (seq y28 ((⟨#[99, 114, 101, 97, 116, 101, 32, 49, 32]⟩ : ByteArray) ++ (strOfNums ([34, 97, 34] : List Int))))) (by kernel_rfl) (by kernel_rfl) ?_
                refine GmT.p' 26 52 (.bool (seq y28 ((⟨#[99, 114, 101, 97, 116, 101, 32, 49, 32]⟩ : ByteArray) ++ (strOfNums ([34, 97, 34] : List Int))))) (by kernel_rfl) (by kernel_rfl) ?_
                refine GmT.p' 27 53 (.bool (seq y28 ((⟨#[99, 114, 101, 97, 116, 101, 32, 49, 32]⟩ : ByteArray) ++ (strOfNums ([34, 97, 34] : List Int))))) (by kernel_rfl) (by kernel_rfl) ?_
                by_cases hb31 : (seq y28 ((⟨#[99, 114, 101, 97, 116, 101, 32, 49, 32]⟩ : ByteArray) ++ (strOfNums ([34, 97, 34] : List Int)))) = true
                · rw [if_pos hb31] at h1
                  refine GmT.keep [1, 7, 53] (S' := [(1, .pointer (some ⟨b1, 0, none⟩)), (7, .slice A18 y17.length cp19), (53, .bool true)]) (by (try simp only [hb31]); kernel_rfl) ?_
                  have hC := hI
                  have hC := hC.drop
                  have hC := hC.drop
                  refine GmT.r (i := 28) 2 (by kernel_rfl) (by kernel_rfl) (Yl.load (d := 54) (T := 26) (v := .agg (c_ApiEvent (ApiEvent.mk 0 1 (⟨#[97]⟩ : ByteArray) 0 0 (List.replicate 32 (0 : Int)))).toArray) (by kernel_rfl) (ldBN ty26 (l := c_ApiEvent (ApiEvent.mk 0 1 (⟨#[97]⟩ : ByteArray) 0 0 (List.replicate 32 (0 : Int)))) (o := 0) (cs := c_ApiEvent (ApiEvent.mk 0 1 (⟨#[97]⟩ : ByteArray) 0 0 (List.replicate 32 (0 : Int)))) (pick3 _ _ _ _) (len_ApiEvent _ (by kernel_rfl)) (whole _ _ (len_ApiEvent _ (by kernel_rfl))))) hC ?_
                  obtain ⟨y33, hc32, h1⟩ := bindS h1
                  try dsimp only at h1
                  refine GmT.o (i := 29) (by kernel_rfl) (Does.call (d := some 55) (n := 13) (vs := [.agg (c_ApiEvent (ApiEvent.mk 0 1 (⟨#[97]⟩ : ByteArray) 0 0 (List.replicate 32 (0 : Int)))).toArray]) (by kernel_rfl) en13 (c13 w0 w _ _ hI (ApiEvent.mk 0 1 (⟨#[97]⟩ : ByteArray) 0 0 (List.replicate 32 (0 : Int))) (by kernel_rfl) _ hc32) ?_)
                  rintro e w ⟨rfl, hI⟩
                  refine ⟨_, rfl, ?_⟩
                  have hC := hI
                  have hC := hC.drop
                  have hC := hC.drop
                  refine ⟨fun _ _ => hC, ?_⟩
                  refine GmT.p' 30 56 (.bool y33) (by kernel_rfl) (by kernel_rfl) ?_
                  refine GmT.p' 31 57 (.bool y33) (by kernel_rfl) (by kernel_rfl) ?_
                  by_cases hb34 : y33 = true
                  · rw [if_pos hb34] at h1
                    refine GmT.keep [7, 57] (S' := [(7, .slice A18 y17.length cp19), (57, .bool true)]) (by (try simp only [hb34]); kernel_rfl) ?_
                    refine GmT.p' 32 58 (.agg (c_ApiEvent (ApiEvent.mk 0 0 (⟨#[]⟩ : ByteArray) 0 0 (List.replicate 32 (0 : Int)))).toArray) (by kernel_rfl) (by kernel_rfl) ?_
                    obtain ⟨y36, hc35, h1⟩ := bindS h1
                    try dsimp only at h1
                    refine GmT.o (i := 33) (by kernel_rfl) (Does.call (d := some 59) (n := 13) (vs := [.agg (c_ApiEvent (ApiEvent.mk 0 0 (⟨#[]⟩ : ByteArray) 0 0 (List.replicate 32 (0 : Int)))).toArray]) (by kernel_rfl) en13 (c13 w0 w _ _ hI (ApiEvent.mk 0 0 (⟨#[]⟩ : ByteArray) 0 0 (List.replicate 32 (0 : Int))) (by kernel_rfl) _ hc35) ?_)
                    rintro e w ⟨rfl, hI⟩
                    refine ⟨_, rfl, ?_⟩
                    have hC := hI
                    have hC := hC.drop
                    have hC := hC.drop
                    refine ⟨fun _ _ => hC, ?_⟩
                    refine GmT.p' 34 60 (.bool (!y36)) (by kernel_rfl) (by kernel_rfl) ?_
                    refine GmT.p' 35 61 (.bool (!y36)) (by kernel_rfl) (by kernel_rfl) ?_
                    refine GmT.p' 36 62 (.bool (!y36)) (by kernel_rfl) (by kernel_rfl) ?_
                    by_cases hb37 : (!y36) = true
                    · rw [if_pos hb37] at h1
                      refine GmT.keep [7, 62] (S' := [(7, .slice A18 y17.length cp19), (62, .bool true)]) (by (try simp only [hb37]); kernel_rfl) ?_
                      refine GmT.p' 37 63 (.slice A18 y17.length cp19) (by kernel_rfl) (by kernel_rfl) ?_
                      refine GmT.p' 38 64 (.int .i64 (y17.length : Int)) (by kernel_rfl) (by kernel_rfl) ?_
                      refine GmT.p' 39 65 (.bool ((y17.length : Int) == 3)) (by kernel_rfl) (by kernel_rfl) ?_
                      refine GmT.p' 40 66 (.bool ((y17.length : Int) == 3)) (by kernel_rfl) (by kernel_rfl) ?_
                      refine GmT.p' 41 67 (.bool ((y17.length : Int) == 3)) (by kernel_rfl) (by kernel_rfl) ?_
                      by_cases hb38 : ((y17.length : Int) == 3) = true
                      · rw [if_pos hb38] at h1
                        refine GmT.keep [7, 67] (S' := [(7, .slice A18 y17.length cp19), (67, .bool true)]) (by (try simp only [hb38]); kernel_rfl) ?_
                        refine GmT.p' 42 68 (.slice A18 y17.length cp19) (by kernel_rfl) (by kernel_rfl) ?_
                        obtain ⟨hg39, h1⟩ := guardS h1
                        obtain ⟨g40, hA41, hr42, hl43⟩ := ownS_get (hI.mono (pick3 _ _ _ _)) hg39.1 hg39.2
                        have hC := hI
                        have hC := hC.drop
                        have hC := hC.drop
                        refine GmT.r (i := 43) 2 (by kernel_rfl) (by kernel_rfl) (Yl.indexSlice (d := 69) (T := 38) (cc := cp19) (k := .i64) (j := 2) (g := g40) (o := 0) (by kernel_rfl) Go.Proofs.Try.underlying38 ty3 hA41 hg39.1 hg39.2) hC ?_
                        have hC := hI
                        have hC := hC.drop
                        have hC := hC.drop
                        refine GmT.r (i := 44) 2 (by kernel_rfl) (by kernel_rfl) (Yl.load (d := 70) (T := 3) (v := .int .i64 (gt y17 2)) (by kernel_rfl) (ldR ty3 (v := .int .i64 (gt y17 2)) 0 (fun w hC => hr42 w0 w _ hC) (by kernel_rfl))) hC ?_
                        refine GmT.p' 45 71 (.bool ((gt y17 2) == 1)) (by kernel_rfl) (by kernel_rfl) ?_
                        refine GmT.p' 46 72 (.bool ((gt y17 2) == 1)) (by kernel_rfl) (by kernel_rfl) ?_
                        refine GmT.p' 47 0 (.bool ((gt y17 2) == 1)) (by kernel_rfl) (by kernel_rfl) ?_
                        refine GmT.done (by kernel_rfl) ?_
                        have hI := hI.drop
                        have hI := hI.drop
                        have hI := hI.drop
                        have hI := hI.drop
                        have hI := hI.drop
                        have e := someS h1
                        subst e
                        exact Qn.thenJ fun a ha => ⟨(gt y17 2) == 1, rfl, ha.keep [0] (by kernel_rfl), hI⟩
                      · rw [if_neg hb38] at h1
                        have hb38 : ((y17.length : Int) == 3) = false := by simpa using hb38
                        refine GmT.keep [7, 67] (S' := [(7, .slice A18 y17.length cp19), (67, .bool false)]) (by (try simp only [hb38]); kernel_rfl) ?_
                        refine GmT.p' 42 68 (undef) (by kernel_rfl) (by kernel_rfl) ?_
                        refine GmT.p' 43 69 (undef) (by kernel_rfl) (by kernel_rfl) ?_
                        refine GmT.p' 44 70 (undef) (by kernel_rfl) (by kernel_rfl) ?_
                        refine GmT.p' 45 71 (undef) (by kernel_rfl) (by kernel_rfl) ?_
                        refine GmT.p' 46 72 (.bool false) (by kernel_rfl) (by kernel_rfl) ?_
                        refine GmT.p' 47 0 (.bool false) (by kernel_rfl) (by kernel_rfl) ?_
                        refine GmT.done (by kernel_rfl) ?_
                        have hI := hI.drop
                        have hI := hI.drop
                        have hI := hI.drop
                        have hI := hI.drop
                        have hI := hI.drop
                        have e := someS h1
                        subst e
                        exact Qn.thenJ fun a ha => ⟨false, rfl, ha.keep [0] (by kernel_rfl), hI⟩
                    · rw [if_neg hb37] at h1
                      have hb37 : (!y36) = false := by simpa using hb37
                      refine GmT.keep [7, 62] (S' := [(7, .slice A18 y17.length cp19), (62, .bool false)]) (by (try simp only [hb37]); kernel_rfl) ?_
                      refine GmT.p' 37 63 (undef) (by kernel_rfl) (by kernel_rfl) ?_
                      refine GmT.p' 38 64 (undef) (by kernel_rfl) (by kernel_rfl) ?_
                      refine GmT.p' 39 65 (undef) (by kernel_rfl) (by kernel_rfl) ?_
                      refine GmT.p' 40 66 (.bool false) (by kernel_rfl) (by kernel_rfl) ?_
                      refine GmT.p' 41 67 (.bool false) (by kernel_rfl) (by kernel_rfl) ?_
                      refine GmT.p' 42 68 (undef) (by kernel_rfl) (by kernel_rfl) ?_
                      refine GmT.p' 43 69 (undef) (by kernel_rfl) (by kernel_rfl) ?_
                      refine GmT.p' 44 70 (undef) (by kernel_rfl) (by kernel_rfl) ?_
                      refine GmT.p' 45 71 (undef) (by kernel_rfl) (by kernel_rfl) ?_
                      refine GmT.p' 46 72 (.bool false) (by kernel_rfl) (by kernel_rfl) ?_
                      refine GmT.p' 47 0 (.bool false) (by kernel_rfl) (by kernel_rfl) ?_
                      refine GmT.done (by kernel_rfl) ?_
                      have hI := hI.drop
                      have hI := hI.drop
                      have hI := hI.drop
                      have hI := hI.drop
                      have hI := hI.drop
                      have e := someS h1
                      subst e
                      exact Qn.thenJ fun a ha => ⟨false, rfl, ha.keep [0] (by kernel_rfl), hI⟩
                  · rw [if_neg hb34] at h1
                    have hb34 : y33 = false := by simpa using hb34
                    refine GmT.keep [7, 57] (S' := [(7, .slice A18 y17.length cp19), (57, .bool false)]) (by (try simp only [hb34]); kernel_rfl) ?_
                    refine GmT.p' 32 58 (undef) (by kernel_rfl) (by kernel_rfl) ?_
                    refine GmT.p' 33 59 (undef) (by kernel_rfl) (by kernel_rfl) ?_
                    refine GmT.p' 34 60 (undef) (by kernel_rfl) (by kernel_rfl) ?_
                    refine GmT.p' 35 61 (.bool false) (by kernel_rfl) (by kernel_rfl) ?_
                    refine GmT.p' 36 62 (.bool false) (by kernel_rfl) (by kernel_rfl) ?_
                    refine GmT.p' 37 63 (undef) (by kernel_rfl) (by kernel_rfl) ?_
                    refine GmT.p' 38 64 (undef) (by kernel_rfl) (by kernel_rfl) ?_
                    refine GmT.p' 39 65 (undef) (by kernel_rfl) (by kernel_rfl) ?_
                    refine GmT.p' 40 66 (.bool false) (by kernel_rfl) (by kernel_rfl) ?_
                    refine GmT.p' 41 67 (.bool false) (by kernel_rfl) (by kernel_rfl) ?_
                    refine GmT.p' 42 68 (undef) (by kernel_rfl) (by kernel_rfl) ?_
                    refine GmT.p' 43 69 (undef) (by kernel_rfl) (by kernel_rfl) ?_
                    refine GmT.p' 44 70 (undef) (by kernel_rfl) (by kernel_rfl) ?_
                    refine GmT.p' 45 71 (undef) (by kernel_rfl) (by kernel_rfl) ?_
                    refine GmT.p' 46 72 (.bool false) (by kernel_rfl) (by kernel_rfl) ?_
                    refine GmT.p' 47 0 (.bool false) (by kernel_rfl) (by kernel_rfl) ?_
                    refine GmT.done (by kernel_rfl) ?_
                    have hI := hI.drop
                    have hI := hI.drop
                    have hI := hI.drop
                    have hI := hI.drop
                    have hI := hI.drop
                    have e := someS h1
                    subst e
                    exact Qn.thenJ fun a ha => ⟨false, rfl, ha.keep [0] (by kernel_rfl), hI⟩
                · rw [if_neg hb31] at h1
                  have hb31 : (seq y28 ((⟨#[99, 114, 101, 97, 116, 101, 32, 49, 32]⟩ : ByteArray) ++ (strOfNums ([34, 97, 34] : List Int)))) = false := by simpa using hb31
                  refine GmT.keep [1, 7, 53] (S' := [(1, .pointer (some ⟨b1, 0, none⟩)), (7, .slice A18 y17.length cp19), (53, .bool false)]) (by (try simp only [hb31]); kernel_rfl) ?_
                  refine GmT.p' 28 54 (undef) (by kernel_rfl) (by kernel_rfl) ?_
                  refine GmT.p' 29 55 (undef) (by kernel_rfl) (by kernel_rfl) ?_
                  refine GmT.p' 30 56 (.bool false) (by kernel_rfl) (by kernel_rfl) ?_
                  refine GmT.p' 31 57 (.bool false) (by kernel_rfl) (by kernel_rfl) ?_
                  refine GmT.p' 32 58 (undef) (by kernel_rfl) (by kernel_rfl) ?_
                  refine GmT.p' 33 59 (undef) (by kernel_rfl) (by kernel_rfl) ?_
                  refine GmT.p' 34 60 (undef) (by kernel_rfl) (by kernel_rfl) ?_
                  refine GmT.p' 35 61 (.bool false) (by kernel_rfl) (by kernel_rfl) ?_
                  refine GmT.p' 36 62 (.bool false) (by kernel_rfl) (by kernel_rfl) ?_
                  refine GmT.p' 37 63 (undef) (by kernel_rfl) (by kernel_rfl) ?_
                  refine GmT.p' 38 64 (undef) (by kernel_rfl) (by kernel_rfl) ?_
                  refine GmT.p' 39 65 (undef) (by kernel_rfl) (by kernel_rfl) ?_
                  refine GmT.p' 40 66 (.bool false) (by kernel_rfl) (by kernel_rfl) ?_
                  refine GmT.p' 41 67 (.bool false) (by kernel_rfl) (by kernel_rfl) ?_
                  refine GmT.p' 42 68 (undef) (by kernel_rfl) (by kernel_rfl) ?_
                  refine GmT.p' 43 69 (undef) (by kernel_rfl) (by kernel_rfl) ?_
                  refine GmT.p' 44 70 (undef) (by kernel_rfl) (by kernel_rfl) ?_
                  refine GmT.p' 45 71 (undef) (by kernel_rfl) (by kernel_rfl) ?_
                  refine GmT.p' 46 72 (.bool false) (by kernel_rfl) (by kernel_rfl) ?_
                  refine GmT.p' 47 0 (.bool false) (by kernel_rfl) (by kernel_rfl) ?_
                  refine GmT.done (by kernel_rfl) ?_
                  have hI := hI.drop
                  have hI := hI.drop
                  have hI := hI.drop
                  have hI := hI.drop
                  have hI := hI.drop
                  have e := someS h1
                  subst e
                  exact Qn.thenJ fun a ha => ⟨false, rfl, ha.keep [0] (by kernel_rfl), hI⟩
              ·
                rw [lst_set]
                refine (Does.buildSlice (en := (cI .u8)) (d := 48) (n := 3) (T := 41) (ps := [(0, .int .u8 34), (1, .int .u8 97), (2, .int .u8 34)]) ([34, 97, 34] : List Int) (by kernel_rfl) Go.Proofs.Try.underlying41 ty5 (by kernel_rfl) (by kernel_rfl) (by kernel_rfl) (by kernel_rfl) (len_all (fun _ => rfl)) hI ?_)
                intro b44 w hI
                have hC := hI
                have hC := hC.drop
                have hC := hC.drop
                refine ⟨fun _ _ => hC, ?_⟩
                refine GmT.several [21, 23] (by kernel_rfl) rfl ?_
                intro i hi; simp only [List.mem_cons, List.not_mem_nil, or_false] at hi; rcases hi with rfl | rfl
                ·
                  obtain ⟨y46, hc45, h1⟩ := bindS h1
                  try dsimp only at h1
                  rw [lst_set]
                  refine (Does.call (d := some 47) (n := 14) (vs := [.agg (c_ApiEvent (ApiEvent.mk 0 1 (⟨#[97]⟩ : ByteArray) 0 0 (List.replicate 32 (0 : Int)))).toArray]) (by kernel_rfl) en14 (c14 w0 w _ _ hI (ApiEvent.mk 0 1 (⟨#[97]⟩ : ByteArray) 0 0 (List.replicate 32 (0 : Int))) (by kernel_rfl) _ hc45) ?_)
                  rintro e w ⟨rfl, hI⟩
                  refine ⟨_, rfl, ?_⟩
                  have hC := hI
                  have hC := hC.drop
                  have hC := hC.drop
                  refine ⟨fun _ _ => hC, ?_⟩
                  refine GmT.o (i := 23) (by kernel_rfl) (Does.b2sOwn (d := 49) (src := 41) (dst := 9) (xs := ([34, 97, 34] : List Int)) (by kernel_rfl) Go.Proofs.Try.underlying41 Go.Proofs.Try.underlying5 Go.Proofs.Try.underlying9 hI ?_)
                  have hC := hI
                  have hC := hC.drop
                  have hC := hC.drop
                  refine ⟨fun _ _ => hC, ?_⟩
                  obtain ⟨hg47, h1⟩ := guardS h1
                  have hC := hI
                  have hC := hC.drop
                  have hC := hC.drop
                  refine GmT.r (i := 24) 2 (by kernel_rfl) (by kernel_rfl) (Yl.cat (d := 50) (T := 9) (x := (⟨#[99, 114, 101, 97, 116, 101, 32, 49, 32]⟩ : ByteArray)) (y := strOfNums ([34, 97, 34] : List Int)) (by kernel_rfl) hg47) hC ?_
                  refine GmT.p' 25 51 (.bool (seq y46 ((⟨#[99, 114, 101, 97, 116, 101, 32, 49, 32]⟩ : ByteArray) ++ (strOfNums ([34, 97, 34] : List Int))))) (by kernel_rfl) (by kernel_rfl) ?_
                  refine GmT.p' 26 52 (.bool (seq y46 ((⟨#[99, 114, 101, 97, 116, 101, 32, 49, 32]⟩ : ByteArray) ++ (strOfNums ([34, 97, 34] : List Int))))) (by kernel_rfl) (by kernel_rfl) ?_
                  refine GmT.p' 27 53 (.bool (seq y46 ((⟨#[99, 114, 101, 97, 116, 101, 32, 49, 32]⟩ : ByteArray) ++ (strOfNums ([34, 97, 34] : List Int))))) (by kernel_rfl) (by kernel_rfl) ?_
                  by_cases hb48 : (seq y46 ((⟨#[99, 114, 101, 97, 116, 101, 32, 49, 32]⟩ : ByteArray) ++ (strOfNums ([34, 97, 34] : List Int)))) = true
                  · rw [if_pos hb48] at h1
                    refine GmT.keep [1, 7, 53] (S' := [(1, .pointer (some ⟨b1, 0, none⟩)), (7, .slice A18 y17.length cp19), (53, .bool true)]) (by (try simp only [hb48]); kernel_rfl) ?_
                    have hC := hI
                    have hC := hC.drop
                    have hC := hC.drop
                    refine GmT.r (i := 28) 2 (by kernel_rfl) (by kernel_rfl) (Yl.load (d := 54) (T := 26) (v := .agg (c_ApiEvent (ApiEvent.mk 0 1 (⟨#[97]⟩ : ByteArray) 0 0 (List.replicate 32 (0 : Int)))).toArray) (by kernel_rfl) (ldBN ty26 (l := c_ApiEvent (ApiEvent.mk 0 1 (⟨#[97]⟩ : ByteArray) 0 0 (List.replicate 32 (0 : Int)))) (o := 0) (cs := c_ApiEvent (ApiEvent.mk 0 1 (⟨#[97]⟩ : ByteArray) 0 0 (List.replicate 32 (0 : Int)))) (pick3 _ _ _ _) (len_ApiEvent _ (by kernel_rfl)) (whole _ _ (len_ApiEvent _ (by kernel_rfl))))) hC ?_
                    obtain ⟨y50, hc49, h1⟩ := bindS h1
                    try dsimp only at h1
                    refine GmT.o (i := 29) (by kernel_rfl) (Does.call (d := some 55) (n := 13) (vs := [.agg (c_ApiEvent (ApiEvent.mk 0 1 (⟨#[97]⟩ : ByteArray) 0 0 (List.replicate 32 (0 : Int)))).toArray]) (by kernel_rfl) en13 (c13 w0 w _ _ hI (ApiEvent.mk 0 1 (⟨#[97]⟩ : ByteArray) 0 0 (List.replicate 32 (0 : Int))) (by kernel_rfl) _ hc49) ?_)
                    rintro e w ⟨rfl, hI⟩
                    refine ⟨_, rfl, ?_⟩
                    have hC := hI
                    have hC := hC.drop
                    have hC := hC.drop
                    refine ⟨fun _ _ => hC, ?_⟩
                    refine GmT.p' 30 56 (.bool y50) (by kernel_rfl) (by kernel_rfl) ?_
                    refine GmT.p' 31 57 (.bool y50) (by kernel_rfl) (by kernel_rfl) ?_
                    by_cases hb51 : y50 = true
                    · rw [if_pos hb51] at h1
                      refine GmT.keep [7, 57] (S' := [(7, .slice A18 y17.length cp19), (57, .bool true)]) (by (try simp only [hb51]); kernel_rfl) ?_
                      refine GmT.p' 32 58 (.agg (c_ApiEvent (ApiEvent.mk 0 0 (⟨#[]⟩ : ByteArray) 0 0 (List.replicate 32 (0 : Int)))).toArray) (by kernel_rfl) (by kernel_rfl) ?_
                      obtain ⟨y53, hc52, h1⟩ := bindS h1
                      try dsimp only at h1
                      refine GmT.o (i := 33) (by kernel_rfl) (Does.call (d := some 59) (n := 13) (vs := [.agg (c_ApiEvent (ApiEvent.mk 0 0 (⟨#[]⟩ : ByteArray) 0 0 (List.replicate 32 (0 : Int)))).toArray]) (by kernel_rfl) en13 (c13 w0 w _ _ hI (ApiEvent.mk 0 0 (⟨#[]⟩ : ByteArray) 0 0 (List.replicate 32 (0 : Int))) (by kernel_rfl) _ hc52) ?_)
                      rintro e w ⟨rfl, hI⟩
                      refine ⟨_, rfl, ?_⟩
                      have hC := hI
                      have hC := hC.drop
                      have hC := hC.drop
                      refine ⟨fun _ _ => hC, ?_⟩
                      refine GmT.p' 34 60 (.bool (!y53)) (by kernel_rfl) (by kernel_rfl) ?_
                      refine GmT.p' 35 61 (.bool (!y53)) (by kernel_rfl) (by kernel_rfl) ?_
                      refine GmT.p' 36 62 (.bool (!y53)) (by kernel_rfl) (by kernel_rfl) ?_
                      by_cases hb54 : (!y53) = true
                      · rw [if_pos hb54] at h1
                        refine GmT.keep [7, 62] (S' := [(7, .slice A18 y17.length cp19), (62, .bool true)]) (by (try simp only [hb54]); kernel_rfl) ?_
                        refine GmT.p' 37 63 (.slice A18 y17.length cp19) (by kernel_rfl) (by kernel_rfl) ?_
                        refine GmT.p' 38 64 (.int .i64 (y17.length : Int)) (by kernel_rfl) (by kernel_rfl) ?_
                        refine GmT.p' 39 65 (.bool ((y17.length : Int) == 3)) (by kernel_rfl) (by kernel_rfl) ?_
                        refine GmT.p' 40 66 (.bool ((y17.length : Int) == 3)) (by kernel_rfl) (by kernel_rfl) ?_
                        refine GmT.p' 41 67 (.bool ((y17.length : Int) == 3)) (by kernel_rfl) (by kernel_rfl) ?_
                        by_cases hb55 : ((y17.length : Int) == 3) = true
                        · rw [if_pos hb55] at h1
                          refine GmT.keep [7, 67] (S' := [(7, .slice A18 y17.length cp19), (67, .bool true)]) (by (try simp only [hb55]); kernel_rfl) ?_
                          refine GmT.p' 42 68 (.slice A18 y17.length cp19) (by kernel_rfl) (by kernel_rfl) ?_
                          obtain ⟨hg56, h1⟩ := guardS h1
                          obtain ⟨g57, hA58, hr59, hl60⟩ := ownS_get (hI.mono (pick3 _ _ _ _)) hg56.1 hg56.2
                          have hC := hI
                          have hC := hC.drop
                          have hC := hC.drop
                          refine GmT.r (i := 43) 2 (by kernel_rfl) (by kernel_rfl) (Yl.indexSlice (d := 69) (T := 38) (cc := cp19) (k := .i64) (j := 2) (g := g57) (o := 0) (by kernel_rfl) Go.Proofs.Try.underlying38 ty3 hA58 hg56.1 hg56.2) hC ?_
                          have hC := hI
                          have hC := hC.drop
                          have hC := hC.drop
                          refine GmT.r (i := 44) 2 (by kernel_rfl) (by kernel_rfl) (Yl.load (d := 70) (T := 3) (v := .int .i64 (gt y17 2)) (by kernel_rfl) (ldR ty3 (v := .int .i64 (gt y17 2)) 0 (fun w hC => hr59 w0 w _ hC) (by kernel_rfl))) hC ?_
                          refine GmT.p' 45 71 (.bool ((gt y17 2) == 1)) (by kernel_rfl) (by kernel_rfl) ?_
                          refine GmT.p' 46 72 (.bool ((gt y17 2) == 1)) (by kernel_rfl) (by kernel_rfl) ?_
                          refine GmT.p' 47 0 (.bool ((gt y17 2) == 1)) (by kernel_rfl) (by kernel_rfl) ?_
                          refine GmT.done (by kernel_rfl) ?_
                          have hI := hI.drop
                          have hI := hI.drop
                          have hI := hI.drop
                          have hI := hI.drop
                          have hI := hI.drop
                          have e := someS h1
                          subst e
                          exact Qn.thenJ fun a ha => ⟨(gt y17 2) == 1, rfl, ha.keep [0] (by kernel_rfl), hI⟩
                        · rw [if_neg hb55] at h1
                          have hb55 : ((y17.length : Int) == 3) = false := by simpa using hb55
                          refine GmT.keep [7, 67] (S' := [(7, .slice A18 y17.length cp19), (67, .bool false)]) (by (try simp only [hb55]); kernel_rfl) ?_
                          refine GmT.p' 42 68 (undef) (by kernel_rfl) (by kernel_rfl) ?_
                          refine GmT.p' 43 69 (undef) (by kernel_rfl) (by kernel_rfl) ?_
                          refine GmT.p' 44 70 (undef) (by kernel_rfl) (by kernel_rfl) ?_
                          refine GmT.p' 45 71 (undef) (by kernel_rfl) (by kernel_rfl) ?_
                          refine GmT.p' 46 72 (.bool false) (by kernel_rfl) (by kernel_rfl) ?_
                          refine GmT.p' 47 0 (.bool false) (by kernel_rfl) (by kernel_rfl) ?_
                          refine GmT.done (by kernel_rfl) ?_
                          have hI := hI.drop
                          have hI := hI.drop
                          have hI := hI.drop
                          have hI := hI.drop
                          have hI := hI.drop
                          have e := someS h1
                          subst e
                          exact Qn.thenJ fun a ha => ⟨false, rfl, ha.keep [0] (by kernel_rfl), hI⟩
                      · rw [if_neg hb54] at h1
                        have hb54 : (!y53) = false := by simpa using hb54
                        refine GmT.keep [7, 62] (S' := [(7, .slice A18 y17.length cp19), (62, .bool false)]) (by (try simp only [hb54]); kernel_rfl) ?_
                        refine GmT.p' 37 63 (undef) (by kernel_rfl) (by kernel_rfl) ?_
                        refine GmT.p' 38 64 (undef) (by kernel_rfl) (by kernel_rfl) ?_
                        refine GmT.p' 39 65 (undef) (by kernel_rfl) (by kernel_rfl) ?_
                        refine GmT.p' 40 66 (.bool false) (by kernel_rfl) (by kernel_rfl) ?_
                        refine GmT.p' 41 67 (.bool false) (by kernel_rfl) (by kernel_rfl) ?_
                        refine GmT.p' 42 68 (undef) (by kernel_rfl) (by kernel_rfl) ?_
                        refine GmT.p' 43 69 (undef) (by kernel_rfl) (by kernel_rfl) ?_
                        refine GmT.p' 44 70 (undef) (by kernel_rfl) (by kernel_rfl) ?_
                        refine GmT.p' 45 71 (undef) (by kernel_rfl) (by kernel_rfl) ?_
                        refine GmT.p' 46 72 (.bool false) (by kernel_rfl) (by kernel_rfl) ?_
                        refine GmT.p' 47 0 (.bool false) (by kernel_rfl) (by kernel_rfl) ?_
                        refine GmT.done (by kernel_rfl) ?_
                        have hI := hI.drop
                        have hI := hI.drop
                        have hI := hI.drop
                        have hI := hI.drop
                        have hI := hI.drop
                        have e := someS h1
                        subst e
                        exact Qn.thenJ fun a ha => ⟨false, rfl, ha.keep [0] (by kernel_rfl), hI⟩
                    · rw [if_neg hb51] at h1
                      have hb51 : y50 = false := by simpa using hb51
                      refine GmT.keep [7, 57] (S' := [(7, .slice A18 y17.length cp19), (57, .bool false)]) (by (try simp only [hb51]); kernel_rfl) ?_
                      refine GmT.p' 32 58 (undef) (by kernel_rfl) (by kernel_rfl) ?_
                      refine GmT.p' 33 59 (undef) (by kernel_rfl) (by kernel_rfl) ?_
                      refine GmT.p' 34 60 (undef) (by kernel_rfl) (by kernel_rfl) ?_
                      refine GmT.p' 35 61 (.bool false) (by kernel_rfl) (by kernel_rfl) ?_
                      refine GmT.p' 36 62 (.bool false) (by kernel_rfl) (by kernel_rfl) ?_
                      refine GmT.p' 37 63 (undef) (by kernel_rfl) (by kernel_rfl) ?_
                      refine GmT.p' 38 64 (undef) (by kernel_rfl) (by kernel_rfl) ?_
                      refine GmT.p' 39 65 (undef) (by kernel_rfl) (by kernel_rfl) ?_
                      refine GmT.p' 40 66 (.bool false) (by kernel_rfl) (by kernel_rfl) ?_
                      refine GmT.p' 41 67 (.bool false) (by kernel_rfl) (by kernel_rfl) ?_
                      refine GmT.p' 42 68 (undef) (by kernel_rfl) (by kernel_rfl) ?_
                      refine GmT.p' 43 69 (undef) (by kernel_rfl) (by kernel_rfl) ?_
                      refine GmT.p' 44 70 (undef) (by kernel_rfl) (by kernel_rfl) ?_
                      refine GmT.p' 45 71 (undef) (by kernel_rfl) (by kernel_rfl) ?_
                      refine GmT.p' 46 72 (.bool false) (by kernel_rfl) (by kernel_rfl) ?_
                      refine GmT.p' 47 0 (.bool false) (by kernel_rfl) (by kernel_rfl) ?_
                      refine GmT.done (by kernel_rfl) ?_
                      have hI := hI.drop
                      have hI := hI.drop
                      have hI := hI.drop
                      have hI := hI.drop
                      have hI := hI.drop
                      have e := someS h1
                      subst e
                      exact Qn.thenJ fun a ha => ⟨false, rfl, ha.keep [0] (by kernel_rfl), hI⟩
                  · rw [if_neg hb48] at h1
                    have hb48 : (seq y46 ((⟨#[99, 114, 101, 97, 116, 101, 32, 49, 32]⟩ : ByteArray) ++ (strOfNums ([34, 97, 34] : List Int)))) = false := by simpa using hb48
                    refine GmT.keep [1, 7, 53] (S' := [(1, .pointer (some ⟨b1, 0, none⟩)), (7, .slice A18 y17.length cp19), (53, .bool false)]) (by (try simp only [hb48]); kernel_rfl) ?_
                    refine GmT.p' 28 54 (undef) (by kernel_rfl) (by kernel_rfl) ?_
                    refine GmT.p' 29 55 (undef) (by kernel_rfl) (by kernel_rfl) ?_
                    refine GmT.p' 30 56 (.bool false) (by kernel_rfl) (by kernel_rfl) ?_
                    refine GmT.p' 31 57 (.bool false) (by kernel_rfl) (by kernel_rfl) ?_
                    refine GmT.p' 32 58 (undef) (by kernel_rfl) (by kernel_rfl) ?_
                    refine GmT.p' 33 59 (undef) (by kernel_rfl) (by kernel_rfl) ?_
                    refine GmT.p' 34 60 (undef) (by kernel_rfl) (by kernel_rfl) ?_
                    refine GmT.p' 35 61 (.bool false) (by kernel_rfl) (by kernel_rfl) ?_
                    refine GmT.p' 36 62 (.bool false) (by kernel_rfl) (by kernel_rfl) ?_
                    refine GmT.p' 37 63 (undef) (by kernel_rfl) (by kernel_rfl) ?_
                    refine GmT.p' 38 64 (undef) (by kernel_rfl) (by kernel_rfl) ?_
                    refine GmT.p' 39 65 (undef) (by kernel_rfl) (by kernel_rfl) ?_
                    refine GmT.p' 40 66 (.bool false) (by kernel_rfl) (by kernel_rfl) ?_
                    refine GmT.p' 41 67 (.bool false) (by kernel_rfl) (by kernel_rfl) ?_
                    refine GmT.p' 42 68 (undef) (by kernel_rfl) (by kernel_rfl) ?_
                    refine GmT.p' 43 69 (undef) (by kernel_rfl) (by kernel_rfl) ?_
                    refine GmT.p' 44 70 (undef) (by kernel_rfl) (by kernel_rfl) ?_
                    refine GmT.p' 45 71 (undef) (by kernel_rfl) (by kernel_rfl) ?_
                    refine GmT.p' 46 72 (.bool false) (by kernel_rfl) (by kernel_rfl) ?_
                    refine GmT.p' 47 0 (.bool false) (by kernel_rfl) (by kernel_rfl) ?_
                    refine GmT.done (by kernel_rfl) ?_
                    have hI := hI.drop
                    have hI := hI.drop
                    have hI := hI.drop
                    have hI := hI.drop
                    have hI := hI.drop
                    have e := someS h1
                    subst e
                    exact Qn.thenJ fun a ha => ⟨false, rfl, ha.keep [0] (by kernel_rfl), hI⟩
                ·
                  rw [lst_set]
                  refine (Does.b2sOwn (d := 49) (src := 41) (dst := 9) (xs := ([34, 97, 34] : List Int)) (by kernel_rfl) Go.Proofs.Try.underlying41 Go.Proofs.Try.underlying5 Go.Proofs.Try.underlying9 hI ?_)
                  have hC := hI
                  have hC := hC.drop
                  have hC := hC.drop
                  refine ⟨fun _ _ => hC, ?_⟩
                  obtain ⟨y63, hc62, h1⟩ := bindS h1
                  try dsimp only at h1
                  obtain ⟨hg61, h1⟩ := guardS h1
                  have hC := hI
                  have hC := hC.drop
                  have hC := hC.drop
                  refine GmT.r (i := 24) 2 (by kernel_rfl) (by kernel_rfl) (Yl.cat (d := 50) (T := 9) (x := (⟨#[99, 114, 101, 97, 116, 101, 32, 49, 32]⟩ : ByteArray)) (y := strOfNums ([34, 97, 34] : List Int)) (by kernel_rfl) hg61) hC ?_
                  refine GmT.o (i := 21) (by kernel_rfl) (Does.call (d := some 47) (n := 14) (vs := [.agg (c_ApiEvent (ApiEvent.mk 0 1 (⟨#[97]⟩ : ByteArray) 0 0 (List.replicate 32 (0 : Int)))).toArray]) (by kernel_rfl) en14 (c14 w0 w _ _ hI (ApiEvent.mk 0 1 (⟨#[97]⟩ : ByteArray) 0 0 (List.replicate 32 (0 : Int))) (by kernel_rfl) _ hc62) ?_)
                  rintro e w ⟨rfl, hI⟩
                  refine ⟨_, rfl, ?_⟩
                  have hC := hI
                  have hC := hC.drop
                  have hC := hC.drop
                  refine ⟨fun _ _ => hC, ?_⟩
                  refine GmT.p' 25 51 (.bool (seq y63 ((⟨#[99, 114, 101, 97, 116, 101, 32, 49, 32]⟩ : ByteArray) ++ (strOfNums ([34, 97, 34] : List Int))))) (by kernel_rfl) (by kernel_rfl) ?_
                  refine GmT.p' 26 52 (.bool (seq y63 ((⟨#[99, 114, 101, 97, 116, 101, 32, 49, 32]⟩ : ByteArray) ++ (strOfNums ([34, 97, 34] : List Int))))) (by kernel_rfl) (by kernel_rfl) ?_
                  refine GmT.p' 27 53 (.bool (seq y63 ((⟨#[99, 114, 101, 97, 116, 101, 32, 49, 32]⟩ : ByteArray) ++ (strOfNums ([34, 97, 34] : List Int))))) (by kernel_rfl) (by kernel_rfl) ?_
                  by_cases hb64 : (seq y63 ((⟨#[99, 114, 101, 97, 116, 101, 32, 49, 32]⟩ : ByteArray) ++ (strOfNums ([34, 97, 34] : List Int)))) = true
                  · rw [if_pos hb64] at h1
                    refine GmT.keep [1, 7, 53] (S' := [(1, .pointer (some ⟨b1, 0, none⟩)), (7, .slice A18 y17.length cp19), (53, .bool true)]) (by (try simp only [hb64]); kernel_rfl) ?_
                    have hC := hI
                    have hC := hC.drop
                    have hC := hC.drop
                    refine GmT.r (i := 28) 2 (by kernel_rfl) (by kernel_rfl) (Yl.load (d := 54) (T := 26) (v := .agg (c_ApiEvent (ApiEvent.mk 0 1 (⟨#[97]⟩ : ByteArray) 0 0 (List.replicate 32 (0 : Int)))).toArray) (by kernel_rfl) (ldBN ty26 (l := c_ApiEvent (ApiEvent.mk 0 1 (⟨#[97]⟩ : ByteArray) 0 0 (List.replicate 32 (0 : Int)))) (o := 0) (cs := c_ApiEvent (ApiEvent.mk 0 1 (⟨#[97]⟩ : ByteArray) 0 0 (List.replicate 32 (0 : Int)))) (pick3 _ _ _ _) (len_ApiEvent _ (by kernel_rfl)) (whole _ _ (len_ApiEvent _ (by kernel_rfl))))) hC ?_
                    obtain ⟨y66, hc65, h1⟩ := bindS h1
                    try dsimp only at h1
                    refine GmT.o (i := 29) (by kernel_rfl) (Does.call (d := some 55) (n := 13) (vs := [.agg (c_ApiEvent (ApiEvent.mk 0 1 (⟨#[97]⟩ : ByteArray) 0 0 (List.replicate 32 (0 : Int)))).toArray]) (by kernel_rfl) en13 (c13 w0 w _ _ hI (ApiEvent.mk 0 1 (⟨#[97]⟩ : ByteArray) 0 0 (List.replicate 32 (0 : Int))) (by kernel_rfl) _ hc65) ?_)
                    rintro e w ⟨rfl, hI⟩
                    refine ⟨_, rfl, ?_⟩
                    have hC := hI
                    have hC := hC.drop
                    have hC := hC.drop
                    refine ⟨fun _ _ => hC, ?_⟩
                    refine GmT.p' 30 56 (.bool y66) (by kernel_rfl) (by kernel_rfl) ?_
                    refine GmT.p' 31 57 (.bool y66) (by kernel_rfl) (by kernel_rfl) ?_
                    by_cases hb67 : y66 = true
                    · rw [if_pos hb67] at h1
                      refine GmT.keep [7, 57] (S' := [(7, .slice A18 y17.length cp19), (57, .bool true)]) (by (try simp only [hb67]); kernel_rfl) ?_
                      refine GmT.p' 32 58 (.agg (c_ApiEvent (ApiEvent.mk 0 0 (⟨#[]⟩ : ByteArray) 0 0 (List.replicate 32 (0 : Int)))).toArray) (by kernel_rfl) (by kernel_rfl) ?_
                      obtain ⟨y69, hc68, h1⟩ := bindS h1
                      try dsimp only at h1
                      refine GmT.o (i := 33) (by kernel_rfl) (Does.call (d := some 59) (n := 13) (vs := [.agg (c_ApiEvent (ApiEvent.mk 0 0 (⟨#[]⟩ : ByteArray) 0 0 (List.replicate 32 (0 : Int)))).toArray]) (by kernel_rfl) en13 (c13 w0 w _ _ hI (ApiEvent.mk 0 0 (⟨#[]⟩ : ByteArray) 0 0 (List.replicate 32 (0 : Int))) (by kernel_rfl) _ hc68) ?_)
                      rintro e w ⟨rfl, hI⟩
                      refine ⟨_, rfl, ?_⟩
                      have hC := hI
                      have hC := hC.drop
                      have hC := hC.drop
                      refine ⟨fun _ _ => hC, ?_⟩
                      refine GmT.p' 34 60 (.bool (!y69)) (by kernel_rfl) (by kernel_rfl) ?_
                      refine GmT.p' 35 61 (.bool (!y69)) (by kernel_rfl) (by kernel_rfl) ?_
                      refine GmT.p' 36 62 (.bool (!y69)) (by kernel_rfl) (by kernel_rfl) ?_
                      by_cases hb70 : (!y69) = true
                      · rw [if_pos hb70] at h1
                        refine GmT.keep [7, 62] (S' := [(7, .slice A18 y17.length cp19), (62, .bool true)]) (by (try simp only [hb70]); kernel_rfl) ?_
                        refine GmT.p' 37 63 (.slice A18 y17.length cp19) (by kernel_rfl) (by kernel_rfl) ?_
                        refine GmT.p' 38 64 (.int .i64 (y17.length : Int)) (by kernel_rfl) (by kernel_rfl) ?_
                        refine GmT.p' 39 65 (.bool ((y17.length : Int) == 3)) (by kernel_rfl) (by kernel_rfl) ?_
                        refine GmT.p' 40 66 (.bool ((y17.length : Int) == 3)) (by kernel_rfl) (by kernel_rfl) ?_
                        refine GmT.p' 41 67 (.bool ((y17.length : Int) == 3)) (by kernel_rfl) (by kernel_rfl) ?_
                        by_cases hb71 : ((y17.length : Int) == 3) = true
                        · rw [if_pos hb71] at h1
                          refine GmT.keep [7, 67] (S' := [(7, .slice A18 y17.length cp19), (67, .bool true)]) (by (try simp only [hb71]); kernel_rfl) ?_
                          refine GmT.p' 42 68 (.slice A18 y17.length cp19) (by kernel_rfl) (by kernel_rfl) ?_
                          obtain ⟨hg72, h1⟩ := guardS h1
                          obtain ⟨g73, hA74, hr75, hl76⟩ := ownS_get (hI.mono (pick3 _ _ _ _)) hg72.1 hg72.2
                          have hC := hI
                          have hC := hC.drop
                          have hC := hC.drop
                          refine GmT.r (i := 43) 2 (by kernel_rfl) (by kernel_rfl) (Yl.indexSlice (d := 69) (T := 38) (cc := cp19) (k := .i64) (j := 2) (g := g73) (o := 0) (by kernel_rfl) Go.Proofs.Try.underlying38 ty3 hA74 hg72.1 hg72.2) hC ?_
                          have hC := hI
                          have hC := hC.drop
                          have hC := hC.drop
                          refine GmT.r (i := 44) 2 (by kernel_rfl) (by kernel_rfl) (Yl.load (d := 70) (T := 3) (v := .int .i64 (gt y17 2)) (by kernel_rfl) (ldR ty3 (v := .int .i64 (gt y17 2)) 0 (fun w hC => hr75 w0 w _ hC) (by kernel_rfl))) hC ?_
                          refine GmT.p' 45 71 (.bool ((gt y17 2) == 1)) (by kernel_rfl) (by kernel_rfl) ?_
                          refine GmT.p' 46 72 (.bool ((gt y17 2) == 1)) (by kernel_rfl) (by kernel_rfl) ?_
                          refine GmT.p' 47 0 (.bool ((gt y17 2) == 1)) (by kernel_rfl) (by kernel_rfl) ?_
                          refine GmT.done (by kernel_rfl) ?_
                          have hI := hI.drop
                          have hI := hI.drop
                          have hI := hI.drop
                          have hI := hI.drop
                          have hI := hI.drop
                          have e := someS h1
                          subst e
                          exact Qn.thenJ fun a ha => ⟨(gt y17 2) == 1, rfl, ha.keep [0] (by kernel_rfl), hI⟩
                        · rw [if_neg hb71] at h1
                          have hb71 : ((y17.length : Int) == 3) = false := by simpa using hb71
                          refine GmT.keep [7, 67] (S' := [(7, .slice A18 y17.length cp19), (67, .bool false)]) (by (try simp only [hb71]); kernel_rfl) ?_
                          refine GmT.p' 42 68 (undef) (by kernel_rfl) (by kernel_rfl) ?_
                          refine GmT.p' 43 69 (undef) (by kernel_rfl) (by kernel_rfl) ?_
                          refine GmT.p' 44 70 (undef) (by kernel_rfl) (by kernel_rfl) ?_
                          refine GmT.p' 45 71 (undef) (by kernel_rfl) (by kernel_rfl) ?_
                          refine GmT.p' 46 72 (.bool false) (by kernel_rfl) (by kernel_rfl) ?_
                          refine GmT.p' 47 0 (.bool false) (by kernel_rfl) (by kernel_rfl) ?_
                          refine GmT.done (by kernel_rfl) ?_
                          have hI := hI.drop
                          have hI := hI.drop
                          have hI := hI.drop
                          have hI := hI.drop
                          have hI := hI.drop
                          have e := someS h1
                          subst e
                          exact Qn.thenJ fun a ha => ⟨false, rfl, ha.keep [0] (by kernel_rfl), hI⟩
                      · rw [if_neg hb70] at h1
                        have hb70 : (!y69) = false := by simpa using hb70
                        refine GmT.keep [7, 62] (S' := [(7, .slice A18 y17.length cp19), (62, .bool false)]) (by (try simp only [hb70]); kernel_rfl) ?_
                        refine GmT.p' 37 63 (undef) (by kernel_rfl) (by kernel_rfl) ?_
                        refine GmT.p' 38 64 (undef) (by kernel_rfl) (by kernel_rfl) ?_
                        refine GmT.p' 39 65 (undef) (by kernel_rfl) (by kernel_rfl) ?_
                        refine GmT.p' 40 66 (.bool false) (by kernel_rfl) (by kernel_rfl) ?_
                        refine GmT.p' 41 67 (.bool false) (by kernel_rfl) (by kernel_rfl) ?_
                        refine GmT.p' 42 68 (undef) (by kernel_rfl) (by kernel_rfl) ?_
                        refine GmT.p' 43 69 (undef) (by kernel_rfl) (by kernel_rfl) ?_
                        refine GmT.p' 44 70 (undef) (by kernel_rfl) (by kernel_rfl) ?_
                        refine GmT.p' 45 71 (undef) (by kernel_rfl) (by kernel_rfl) ?_
                        refine GmT.p' 46 72 (.bool false) (by kernel_rfl) (by kernel_rfl) ?_
                        refine GmT.p' 47 0 (.bool false) (by kernel_rfl) (by kernel_rfl) ?_
                        refine GmT.done (by kernel_rfl) ?_
                        have hI := hI.drop
                        have hI := hI.drop
                        have hI := hI.drop
                        have hI := hI.drop
                        have hI := hI.drop
                        have e := someS h1
                        subst e
                        exact Qn.thenJ fun a ha => ⟨false, rfl, ha.keep [0] (by kernel_rfl), hI⟩
                    · rw [if_neg hb67] at h1
                      have hb67 : y66 = false := by simpa using hb67
                      refine GmT.keep [7, 57] (S' := [(7, .slice A18 y17.length cp19), (57, .bool false)]) (by (try simp only [hb67]); kernel_rfl) ?_
                      refine GmT.p' 32 58 (undef) (by kernel_rfl) (by kernel_rfl) ?_
                      refine GmT.p' 33 59 (undef) (by kernel_rfl) (by kernel_rfl) ?_
                      refine GmT.p' 34 60 (undef) (by kernel_rfl) (by kernel_rfl) ?_
                      refine GmT.p' 35 61 (.bool false) (by kernel_rfl) (by kernel_rfl) ?_
                      refine GmT.p' 36 62 (.bool false) (by kernel_rfl) (by kernel_rfl) ?_
                      refine GmT.p' 37 63 (undef) (by kernel_rfl) (by kernel_rfl) ?_
                      refine GmT.p' 38 64 (undef) (by kernel_rfl) (by kernel_rfl) ?_
                      refine GmT.p' 39 65 (undef) (by kernel_rfl) (by kernel_rfl) ?_
                      refine GmT.p' 40 66 (.bool false) (by kernel_rfl) (by kernel_rfl) ?_
                      refine GmT.p' 41 67 (.bool false) (by kernel_rfl) (by kernel_rfl) ?_
                      refine GmT.p' 42 68 (undef) (by kernel_rfl) (by kernel_rfl) ?_
                      refine GmT.p' 43 69 (undef) (by kernel_rfl) (by kernel_rfl) ?_
                      refine GmT.p' 44 70 (undef) (by kernel_rfl) (by kernel_rfl) ?_
                      refine GmT.p' 45 71 (undef) (by kernel_rfl) (by kernel_rfl) ?_
                      refine GmT.p' 46 72 (.bool false) (by kernel_rfl) (by kernel_rfl) ?_
                      refine GmT.p' 47 0 (.bool false) (by kernel_rfl) (by kernel_rfl) ?_
                      refine GmT.done (by kernel_rfl) ?_
                      have hI := hI.drop
                      have hI := hI.drop
                      have hI := hI.drop
                      have hI := hI.drop
                      have hI := hI.drop
                      have e := someS h1
                      subst e
                      exact Qn.thenJ fun a ha => ⟨false, rfl, ha.keep [0] (by kernel_rfl), hI⟩
                  · rw [if_neg hb64] at h1
                    have hb64 : (seq y63 ((⟨#[99, 114, 101, 97, 116, 101, 32, 49, 32]⟩ : ByteArray) ++ (strOfNums ([34, 97, 34] : List Int)))) = false := by simpa using hb64
                    refine GmT.keep [1, 7, 53] (S' := [(1, .pointer (some ⟨b1, 0, none⟩)), (7, .slice A18 y17.length cp19), (53, .bool false)]) (by (try simp only [hb64]); kernel_rfl) ?_
                    refine GmT.p' 28 54 (undef) (by kernel_rfl) (by kernel_rfl) ?_
                    refine GmT.p' 29 55 (undef) (by kernel_rfl) (by kernel_rfl) ?_
                    refine GmT.p' 30 56 (.bool false) (by kernel_rfl) (by kernel_rfl) ?_
                    refine GmT.p' 31 57 (.bool false) (by kernel_rfl) (by kernel_rfl) ?_
                    refine GmT.p' 32 58 (undef) (by kernel_rfl) (by kernel_rfl) ?_
                    refine GmT.p' 33 59 (undef) (by kernel_rfl) (by kernel_rfl) ?_
                    refine GmT.p' 34 60 (undef) (by kernel_rfl) (by kernel_rfl) ?_
                    refine GmT.p' 35 61 (.bool false) (by kernel_rfl) (by kernel_rfl) ?_
                    refine GmT.p' 36 62 (.bool false) (by kernel_rfl) (by kernel_rfl) ?_
                    refine GmT.p' 37 63 (undef) (by kernel_rfl) (by kernel_rfl) ?_
                    refine GmT.p' 38 64 (undef) (by kernel_rfl) (by kernel_rfl) ?_
                    refine GmT.p' 39 65 (undef) (by kernel_rfl) (by kernel_rfl) ?_
                    refine GmT.p' 40 66 (.bool false) (by kernel_rfl) (by kernel_rfl) ?_
                    refine GmT.p' 41 67 (.bool false) (by kernel_rfl) (by kernel_rfl) ?_
                    refine GmT.p' 42 68 (undef) (by kernel_rfl) (by kernel_rfl) ?_
                    refine GmT.p' 43 69 (undef) (by kernel_rfl) (by kernel_rfl) ?_
                    refine GmT.p' 44 70 (undef) (by kernel_rfl) (by kernel_rfl) ?_
                    refine GmT.p' 45 71 (undef) (by kernel_rfl) (by kernel_rfl) ?_
                    refine GmT.p' 46 72 (.bool false) (by kernel_rfl) (by kernel_rfl) ?_
                    refine GmT.p' 47 0 (.bool false) (by kernel_rfl) (by kernel_rfl) ?_
                    refine GmT.done (by kernel_rfl) ?_
                    have hI := hI.drop
                    have hI := hI.drop
                    have hI := hI.drop
                    have hI := hI.drop
                    have hI := hI.drop
                    have e := someS h1
                    subst e
                    exact Qn.thenJ fun a ha => ⟨false, rfl, ha.keep [0] (by kernel_rfl), hI⟩
            · rw [if_neg hb26] at h1
              have hb26 : y10 = false := by simpa using hb26
              refine GmT.keep [1, 7, 45] (S' := [(1, .pointer (some ⟨b1, 0, none⟩)), (7, .slice A18 y17.length cp19), (45, .bool false)]) (by (try simp only [hb26]); kernel_rfl) ?_
              refine GmT.p' 20 46 (undef) (by kernel_rfl) (by kernel_rfl) ?_
              refine GmT.p' 21 47 (undef) (by kernel_rfl) (by kernel_rfl) ?_
              refine GmT.p' 22 48 (undef) (by kernel_rfl) (by kernel_rfl) ?_
              refine GmT.p' 23 49 (undef) (by kernel_rfl) (by kernel_rfl) ?_
              refine GmT.p' 24 50 (undef) (by kernel_rfl) (by kernel_rfl) ?_
              refine GmT.p' 25 51 (undef) (by kernel_rfl) (by kernel_rfl) ?_
              refine GmT.p' 26 52 (.bool false) (by kernel_rfl) (by kernel_rfl) ?_
              refine GmT.p' 27 53 (.bool false) (by kernel_rfl) (by kernel_rfl) ?_
              refine GmT.p' 28 54 (undef) (by kernel_rfl) (by kernel_rfl) ?_
              refine GmT.p' 29 55 (undef) (by kernel_rfl) (by kernel_rfl) ?_
              refine GmT.p' 30 56 (.bool false) (by kernel_rfl) (by kernel_rfl) ?_
              refine GmT.p' 31 57 (.bool false) (by kernel_rfl) (by kernel_rfl) ?_
              refine GmT.p' 32 58 (undef) (by kernel_rfl) (by kernel_rfl) ?_
              refine GmT.p' 33 59 (undef) (by kernel_rfl) (by kernel_rfl) ?_
              refine GmT.p' 34 60 (undef) (by kernel_rfl) (by kernel_rfl) ?_
              refine GmT.p' 35 61 (.bool false) (by kernel_rfl) (by kernel_rfl) ?_
              refine GmT.p' 36 62 (.bool false) (by kernel_rfl) (by kernel_rfl) ?_
              refine GmT.p' 37 63 (undef) (by kernel_rfl) (by kernel_rfl) ?_
              refine GmT.p' 38 64 (undef) (by kernel_rfl) (by kernel_rfl) ?_
              refine GmT.p' 39 65 (undef) (by kernel_rfl) (by kernel_rfl) ?_
              refine GmT.p' 40 66 (.bool false) (by kernel_rfl) (by kernel_rfl) ?_
              refine GmT.p' 41 67 (.bool false) (by kernel_rfl) (by kernel_rfl) ?_
              refine GmT.p' 42 68 (undef) (by kernel_rfl) (by kernel_rfl) ?_
              refine GmT.p' 43 69 (undef) (by kernel_rfl) (by kernel_rfl) ?_
              refine GmT.p' 44 70 (undef) (by kernel_rfl) (by kernel_rfl) ?_
              refine GmT.p' 45 71 (undef) (by kernel_rfl) (by kernel_rfl) ?_
              refine GmT.p' 46 72 (.bool false) (by kernel_rfl) (by kernel_rfl) ?_
              refine GmT.p' 47 0 (.bool false) (by kernel_rfl) (by kernel_rfl) ?_
              refine GmT.done (by kernel_rfl) ?_
              have hI := hI.drop
              have hI := hI.drop
              have hI := hI.drop
              have hI := hI.drop
              have e := someS h1
              subst e
              exact Qn.thenJ fun a ha => ⟨false, rfl, ha.keep [0] (by kernel_rfl), hI⟩
          · rw [if_neg hb25] at h1
            have hb25 : (seq y9 (⟨#[122]⟩ : ByteArray)) = false := by simpa using hb25
            refine GmT.keep [1, 6, 7, 42] (S' := [(1, .pointer (some ⟨b1, 0, none⟩)), (6, .bool y10), (7, .slice A18 y17.length cp19), (42, .bool false)]) (by (try simp only [hb25]); kernel_rfl) ?_
            refine GmT.p' 17 43 (undef) (by kernel_rfl) (by kernel_rfl) ?_
            refine GmT.p' 18 44 (.bool false) (by kernel_rfl) (by kernel_rfl) ?_
            refine GmT.p' 19 45 (.bool false) (by kernel_rfl) (by kernel_rfl) ?_
            refine GmT.p' 20 46 (undef) (by kernel_rfl) (by kernel_rfl) ?_
            refine GmT.p' 21 47 (undef) (by kernel_rfl) (by kernel_rfl) ?_
            refine GmT.p' 22 48 (undef) (by kernel_rfl) (by kernel_rfl) ?_
            refine GmT.p' 23 49 (undef) (by kernel_rfl) (by kernel_rfl) ?_
            refine GmT.p' 24 50 (undef) (by kernel_rfl) (by kernel_rfl) ?_
            refine GmT.p' 25 51 (undef) (by kernel_rfl) (by kernel_rfl) ?_
            refine GmT.p' 26 52 (.bool false) (by kernel_rfl) (by kernel_rfl) ?_
            refine GmT.p' 27 53 (.bool false) (by kernel_rfl) (by kernel_rfl) ?_
            refine GmT.p' 28 54 (undef) (by kernel_rfl) (by kernel_rfl) ?_
            refine GmT.p' 29 55 (undef) (by kernel_rfl) (by kernel_rfl) ?_
            refine GmT.p' 30 56 (.bool false) (by kernel_rfl) (by kernel_rfl) ?_
            refine GmT.p' 31 57 (.bool false) (by kernel_rfl) (by kernel_rfl) ?_
            refine GmT.p' 32 58 (undef) (by kernel_rfl) (by kernel_rfl) ?_
            refine GmT.p' 33 59 (undef) (by kernel_rfl) (by kernel_rfl) ?_
            refine GmT.p' 34 60 (undef) (by kernel_rfl) (by kernel_rfl) ?_
            refine GmT.p' 35 61 (.bool false) (by kernel_rfl) (by kernel_rfl) ?_
            refine GmT.p' 36 62 (.bool false) (by kernel_rfl) (by kernel_rfl) ?_
            refine GmT.p' 37 63 (undef) (by kernel_rfl) (by kernel_rfl) ?_
            refine GmT.p' 38 64 (undef) (by kernel_rfl) (by kernel_rfl) ?_
            refine GmT.p' 39 65 (undef) (by kernel_rfl) (by kernel_rfl) ?_
            refine GmT.p' 40 66 (.bool false) (by kernel_rfl) (by kernel_rfl) ?_
            refine GmT.p' 41 67 (.bool false) (by kernel_rfl) (by kernel_rfl) ?_
            refine GmT.p' 42 68 (undef) (by kernel_rfl) (by kernel_rfl) ?_
            refine GmT.p' 43 69 (undef) (by kernel_rfl) (by kernel_rfl) ?_
            refine GmT.p' 44 70 (undef) (by kernel_rfl) (by kernel_rfl) ?_
            refine GmT.p' 45 71 (undef) (by kernel_rfl) (by kernel_rfl) ?_
            refine GmT.p' 46 72 (.bool false) (by kernel_rfl) (by kernel_rfl) ?_
            refine GmT.p' 47 0 (.bool false) (by kernel_rfl) (by kernel_rfl) ?_
            refine GmT.done (by kernel_rfl) ?_
            have hI := hI.drop
            have hI := hI.drop
            have hI := hI.drop
            have hI := hI.drop
            have e := someS h1
            subst e
            exact Qn.thenJ fun a ha => ⟨false, rfl, ha.keep [0] (by kernel_rfl), hI⟩
        · rw [if_neg hb24] at h1
          have hb24 : (eq_ApiEvent y7 (ApiEvent.mk 0 1 (⟨#[97]⟩ : ByteArray) 0 0 (List.replicate 32 (0 : Int)))) = false := by simpa using hb24
          refine GmT.keep [1, 5, 6, 7, 38] (S' := [(1, .pointer (some ⟨b1, 0, none⟩)), (5, .string y9), (6, .bool y10), (7, .slice A18 y17.length cp19), (38, .bool false)]) (by (try simp only [hb24]); kernel_rfl) ?_
          refine GmT.p' 13 39 (undef) (by kernel_rfl) (by kernel_rfl) ?_
          refine GmT.p' 14 40 (undef) (by kernel_rfl) (by kernel_rfl) ?_
          refine GmT.p' 15 41 (.bool false) (by kernel_rfl) (by kernel_rfl) ?_
          refine GmT.p' 16 42 (.bool false) (by kernel_rfl) (by kernel_rfl) ?_
          refine GmT.p' 17 43 (undef) (by kernel_rfl) (by kernel_rfl) ?_
          refine GmT.p' 18 44 (.bool false) (by kernel_rfl) (by kernel_rfl) ?_
          refine GmT.p' 19 45 (.bool false) (by kernel_rfl) (by kernel_rfl) ?_
          refine GmT.p' 20 46 (undef) (by kernel_rfl) (by kernel_rfl) ?_
          refine GmT.p' 21 47 (undef) (by kernel_rfl) (by kernel_rfl) ?_
          refine GmT.p' 22 48 (undef) (by kernel_rfl) (by kernel_rfl) ?_
          refine GmT.p' 23 49 (undef) (by kernel_rfl) (by kernel_rfl) ?_
          refine GmT.p' 24 50 (undef) (by kernel_rfl) (by kernel_rfl) ?_
          refine GmT.p' 25 51 (undef) (by kernel_rfl) (by kernel_rfl) ?_
          refine GmT.p' 26 52 (.bool false) (by kernel_rfl) (by kernel_rfl) ?_
          refine GmT.p' 27 53 (.bool false) (by kernel_rfl) (by kernel_rfl) ?_
          refine GmT.p' 28 54 (undef) (by kernel_rfl) (by kernel_rfl) ?_
          refine GmT.p' 29 55 (undef) (by kernel_rfl) (by kernel_rfl) ?_
          refine GmT.p' 30 56 (.bool false) (by kernel_rfl) (by kernel_rfl) ?_
          refine GmT.p' 31 57 (.bool false) (by kernel_rfl) (by kernel_rfl) ?_
          refine GmT.p' 32 58 (undef) (by kernel_rfl) (by kernel_rfl) ?_
          refine GmT.p' 33 59 (undef) (by kernel_rfl) (by kernel_rfl) ?_
          refine GmT.p' 34 60 (undef) (by kernel_rfl) (by kernel_rfl) ?_
          refine GmT.p' 35 61 (.bool false) (by kernel_rfl) (by kernel_rfl) ?_
          refine GmT.p' 36 62 (.bool false) (by kernel_rfl) (by kernel_rfl) ?_
          refine GmT.p' 37 63 (undef) (by kernel_rfl) (by kernel_rfl) ?_
          refine GmT.p' 38 64 (undef) (by kernel_rfl) (by kernel_rfl) ?_
          refine GmT.p' 39 65 (undef) (by kernel_rfl) (by kernel_rfl) ?_
          refine GmT.p' 40 66 (.bool false) (by kernel_rfl) (by kernel_rfl) ?_
          refine GmT.p' 41 67 (.bool false) (by kernel_rfl) (by kernel_rfl) ?_
          refine GmT.p' 42 68 (undef) (by kernel_rfl) (by kernel_rfl) ?_
          refine GmT.p' 43 69 (undef) (by kernel_rfl) (by kernel_rfl) ?_
          refine GmT.p' 44 70 (undef) (by kernel_rfl) (by kernel_rfl) ?_
          refine GmT.p' 45 71 (undef) (by kernel_rfl) (by kernel_rfl) ?_
          refine GmT.p' 46 72 (.bool false) (by kernel_rfl) (by kernel_rfl) ?_
          refine GmT.p' 47 0 (.bool false) (by kernel_rfl) (by kernel_rfl) ?_
          refine GmT.done (by kernel_rfl) ?_
          have hI := hI.drop
          have hI := hI.drop
          have hI := hI.drop
          have hI := hI.drop
          have e := someS h1
          subst e
          exact Qn.thenJ fun a ha => ⟨false, rfl, ha.keep [0] (by kernel_rfl), hI⟩
      · rw [if_neg hb23] at h1
        have hb23 : y4 = false := by simpa using hb23
        refine GmT.keep [1, 4, 5, 6, 7, 33] (S' := [(1, .pointer (some ⟨b1, 0, none⟩)), (4, .pointer (some ⟨b11, 0, none⟩)), (5, .string y9), (6, .bool y10), (7, .slice A18 y17.length cp19), (33, .bool false)]) (by (try simp only [hb23]); kernel_rfl) ?_
        refine GmT.p' 8 34 (undef) (by kernel_rfl) (by kernel_rfl) ?_
        refine GmT.p' 9 35 (undef) (by kernel_rfl) (by kernel_rfl) ?_
        refine GmT.p' 10 36 (undef) (by kernel_rfl) (by kernel_rfl) ?_
        refine GmT.p' 11 37 (.bool false) (by kernel_rfl) (by kernel_rfl) ?_
        refine GmT.p' 12 38 (.bool false) (by kernel_rfl) (by kernel_rfl) ?_
        refine GmT.p' 13 39 (undef) (by kernel_rfl) (by kernel_rfl) ?_
        refine GmT.p' 14 40 (undef) (by kernel_rfl) (by kernel_rfl) ?_
        refine GmT.p' 15 41 (.bool false) (by kernel_rfl) (by kernel_rfl) ?_
        refine GmT.p' 16 42 (.bool false) (by kernel_rfl) (by kernel_rfl) ?_
        refine GmT.p' 17 43 (undef) (by kernel_rfl) (by kernel_rfl) ?_
        refine GmT.p' 18 44 (.bool false) (by kernel_rfl) (by kernel_rfl) ?_
        refine GmT.p' 19 45 (.bool false) (by kernel_rfl) (by kernel_rfl) ?_
        refine GmT.p' 20 46 (undef) (by kernel_rfl) (by kernel_rfl) ?_
        refine GmT.p' 21 47 (undef) (by kernel_rfl) (by kernel_rfl) ?_
        refine GmT.p' 22 48 (undef) (by kernel_rfl) (by kernel_rfl) ?_
        refine GmT.p' 23 49 (undef) (by kernel_rfl) (by kernel_rfl) ?_
        refine GmT.p' 24 50 (undef) (by kernel_rfl) (by kernel_rfl) ?_
        refine GmT.p' 25 51 (undef) (by kernel_rfl) (by kernel_rfl) ?_
        refine GmT.p' 26 52 (.bool false) (by kernel_rfl) (by kernel_rfl) ?_
        refine GmT.p' 27 53 (.bool false) (by kernel_rfl) (by kernel_rfl) ?_
        refine GmT.p' 28 54 (undef) (by kernel_rfl) (by kernel_rfl) ?_
        refine GmT.p' 29 55 (undef) (by kernel_rfl) (by kernel_rfl) ?_
        refine GmT.p' 30 56 (.bool false) (by kernel_rfl) (by kernel_rfl) ?_
        refine GmT.p' 31 57 (.bool false) (by kernel_rfl) (by kernel_rfl) ?_
        refine GmT.p' 32 58 (undef) (by kernel_rfl) (by kernel_rfl) ?_
        refine GmT.p' 33 59 (undef) (by kernel_rfl) (by kernel_rfl) ?_
        refine GmT.p' 34 60 (undef) (by kernel_rfl) (by kernel_rfl) ?_
        refine GmT.p' 35 61 (.bool false) (by kernel_rfl) (by kernel_rfl) ?_
        refine GmT.p' 36 62 (.bool false) (by kernel_rfl) (by kernel_rfl) ?_
        refine GmT.p' 37 63 (undef) (by kernel_rfl) (by kernel_rfl) ?_
        refine GmT.p' 38 64 (undef) (by kernel_rfl) (by kernel_rfl) ?_
        refine GmT.p' 39 65 (undef) (by kernel_rfl) (by kernel_rfl) ?_
        refine GmT.p' 40 66 (.bool false) (by kernel_rfl) (by kernel_rfl) ?_
        refine GmT.p' 41 67 (.bool false) (by kernel_rfl) (by kernel_rfl) ?_
        refine GmT.p' 42 68 (undef) (by kernel_rfl) (by kernel_rfl) ?_
        refine GmT.p' 43 69 (undef) (by kernel_rfl) (by kernel_rfl) ?_
        refine GmT.p' 44 70 (undef) (by kernel_rfl) (by kernel_rfl) ?_
        refine GmT.p' 45 71 (undef) (by kernel_rfl) (by kernel_rfl) ?_
        refine GmT.p' 46 72 (.bool false) (by kernel_rfl) (by kernel_rfl) ?_
        refine GmT.p' 47 0 (.bool false) (by kernel_rfl) (by kernel_rfl) ?_
        refine GmT.done (by kernel_rfl) ?_
        have hI := hI.drop
        have hI := hI.drop
        have hI := hI.drop
        have hI := hI.drop
        have e := someS h1
        subst e
        exact Qn.thenJ fun a ha => ⟨false, rfl, ha.keep [0] (by kernel_rfl), hI⟩
    · rw [if_neg hb22] at h1
      have hb22 : (seq y3 (strOfNums ([0, 1, 1, 97] : List Int))) = false := by simpa using hb22
      refine GmT.keep [1, 3, 4, 5, 6, 7, 30] (S' := [(1, .pointer (some ⟨b1, 0, none⟩)), (3, .bool y4), (4, .pointer (some ⟨b11, 0, none⟩)), (5, .string y9), (6, .bool y10), (7, .slice A18 y17.length cp19), (30, .bool false)]) (by (try simp only [hb22]); kernel_rfl) ?_
      refine GmT.p' 5 31 (undef) (by kernel_rfl) (by kernel_rfl) ?_
      refine GmT.p' 6 32 (.bool false) (by kernel_rfl) (by kernel_rfl) ?_
      refine GmT.p' 7 33 (.bool false) (by kernel_rfl) (by kernel_rfl) ?_
      refine GmT.p' 8 34 (undef) (by kernel_rfl) (by kernel_rfl) ?_
      refine GmT.p' 9 35 (undef) (by kernel_rfl) (by kernel_rfl) ?_
      refine GmT.p' 10 36 (undef) (by kernel_rfl) (by kernel_rfl) ?_
      refine GmT.p' 11 37 (.bool false) (by kernel_rfl) (by kernel_rfl) ?_
      refine GmT.p' 12 38 (.bool false) (by kernel_rfl) (by kernel_rfl) ?_
      refine GmT.p' 13 39 (undef) (by kernel_rfl) (by kernel_rfl) ?_
      refine GmT.p' 14 40 (undef) (by kernel_rfl) (by kernel_rfl) ?_
      refine GmT.p' 15 41 (.bool false) (by kernel_rfl) (by kernel_rfl) ?_
      refine GmT.p' 16 42 (.bool false) (by kernel_rfl) (by kernel_rfl) ?_
      refine GmT.p' 17 43 (undef) (by kernel_rfl) (by kernel_rfl) ?_
      refine GmT.p' 18 44 (.bool false) (by kernel_rfl) (by kernel_rfl) ?_
      refine GmT.p' 19 45 (.bool false) (by kernel_rfl) (by kernel_rfl) ?_
      refine GmT.p' 20 46 (undef) (by kernel_rfl) (by kernel_rfl) ?_
      refine GmT.p' 21 47 (undef) (by kernel_rfl) (by kernel_rfl) ?_
      refine GmT.p' 22 48 (undef) (by kernel_rfl) (by kernel_rfl) ?_
      refine GmT.p' 23 49 (undef) (by kernel_rfl) (by kernel_rfl) ?_
      refine GmT.p' 24 50 (undef) (by kernel_rfl) (by kernel_rfl) ?_
      refine GmT.p' 25 51 (undef) (by kernel_rfl) (by kernel_rfl) ?_
      refine GmT.p' 26 52 (.bool false) (by kernel_rfl) (by kernel_rfl) ?_
      refine GmT.p' 27 53 (.bool false) (by kernel_rfl) (by kernel_rfl) ?_
      refine GmT.p' 28 54 (undef) (by kernel_rfl) (by kernel_rfl) ?_
      refine GmT.p' 29 55 (undef) (by kernel_rfl) (by kernel_rfl) ?_
      refine GmT.p' 30 56 (.bool false) (by kernel_rfl) (by kernel_rfl) ?_
      refine GmT.p' 31 57 (.bool false) (by kernel_rfl) (by kernel_rfl) ?_
      refine GmT.p' 32 58 (undef) (by kernel_rfl) (by kernel_rfl) ?_
      refine GmT.p' 33 59 (undef) (by kernel_rfl) (by kernel_rfl) ?_
      refine GmT.p' 34 60 (undef) (by kernel_rfl) (by kernel_rfl) ?_
      refine GmT.p' 35 61 (.bool false) (by kernel_rfl) (by kernel_rfl) ?_
      refine GmT.p' 36 62 (.bool false) (by kernel_rfl) (by kernel_rfl) ?_
      refine GmT.p' 37 63 (undef) (by kernel_rfl) (by kernel_rfl) ?_
      refine GmT.p' 38 64 (undef) (by kernel_rfl) (by kernel_rfl) ?_
      refine GmT.p' 39 65 (undef) (by kernel_rfl) (by kernel_rfl) ?_
      refine GmT.p' 40 66 (.bool false) (by kernel_rfl) (by kernel_rfl) ?_
      refine GmT.p' 41 67 (.bool false) (by kernel_rfl) (by kernel_rfl) ?_
      refine GmT.p' 42 68 (undef) (by kernel_rfl) (by kernel_rfl) ?_
      refine GmT.p' 43 69 (undef) (by kernel_rfl) (by kernel_rfl) ?_
      refine GmT.p' 44 70 (undef) (by kernel_rfl) (by kernel_rfl) ?_
      refine GmT.p' 45 71 (undef) (by kernel_rfl) (by kernel_rfl) ?_
      refine GmT.p' 46 72 (.bool false) (by kernel_rfl) (by kernel_rfl) ?_
      refine GmT.p' 47 0 (.bool false) (by kernel_rfl) (by kernel_rfl) ?_
      refine GmT.done (by kernel_rfl) ?_
      have hI := hI.drop
      have hI := hI.drop
      have hI := hI.drop
      have hI := hI.drop
      have e := someS h1
      subst e
      exact Qn.thenJ fun a ha => ⟨false, rfl, ha.keep [0] (by kernel_rfl), hI⟩
  ·
    rintro a w ⟨x20, rfl, ha, hI⟩
    try dsimp only at h0
    refine CodT.of ?_ ha
    refine CodT.ret ?_
    have e := someS h0
    subst e
    refine Qn.keep [0] (S' := [(0, .bool x20)]) (by kernel_rfl) ?_
    exact post_ret (v := .bool x20) (fun a ha => RunRes.run (vs := [.bool x20]) (.tmp (t := 0) (by kernel_rfl) .nil) ha (by kernel_rfl)) ⟨rfl, hI.weaken hle14⟩
end Go.Cen
