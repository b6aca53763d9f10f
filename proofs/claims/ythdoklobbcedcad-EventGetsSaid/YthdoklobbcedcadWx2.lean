/- That the machine computes these: walks, printed by a program of ours. -/
import Derived.Test.YthdoklobbcedcadPx
import Derived.Test.YthdoklobbcedcadWx1
set_option linter.unusedVariables false
set_option linter.unusedSimpArgs false
namespace Go.Cen
set_option maxRecDepth 100000 in
set_option maxHeartbeats 4000000 in
/-- cenotaph/cenotaphlaw05.works -/
theorem c9 (w0 w : World) (Z : Hp) (A : HP) (hI : Inv w0 Z w A)  (r : Bool) (h0 : law05_works = some r) :
    Calls prog 9 #[] w (fun e w' => e = .returned (.bool r) ∧ Inv w0 Z w' A) := by
  have e4 := calls_intro (R := (fun e w' => e = .returned (.bool r) ∧ Inv w0 Z w' A)) (w := w) (args := []) (fn := Go.Proofs.Try.f9) 73 Go.Proofs.Try.func9 (by rfl) Go.Proofs.Try.ntmps9 (by kernel_rfl)
  refine e4 ?_
  clear e4
  unfold law05_works at h0
  refine CodT.seq ?_
  refine CodT.regionL [0] (by kernel_rfl) ?_
  refine OpsT.pures (r := []) [0] [] (S' := []) (by kernel_rfl) ?_
  refine OpsT.done ?_
  refine Qn.then ?_
  refine CodT.seq ?_
  refine CodT.regionL [0, 1, 2] (by kernel_rfl) ?_
  refine OpsT.pures (r := [1, 2]) [0] [8] (S' := [(8, .agg (c_ApiEvent (ApiEvent.mk 0 1 (⟨#[97]⟩ : ByteArray) 0 0 (List.replicate 32 (0 : Int)))).toArray)]) (by kernel_rfl) ?_
  refine OpsT.cons (Does.allocL (d := 1) (T := 26) (c_ApiEvent (ApiEvent.mk 0 0 (⟨#[]⟩ : ByteArray) 0 0 (List.replicate 32 (0 : Int)))) (by kernel_rfl) ty26 hI (by kernel_rfl) ?_)
  intro b1 w hI
  refine OpsT.cons (Does.storeLit (T := 26) (b := b1) (o := 0) (v := .agg (c_ApiEvent (ApiEvent.mk 0 1 (⟨#[97]⟩ : ByteArray) 0 0 (List.replicate 32 (0 : Int)))).toArray) (l := c_ApiEvent (ApiEvent.mk 0 0 (⟨#[]⟩ : ByteArray) 0 0 (List.replicate 32 (0 : Int)))) (vs := c_ApiEvent (ApiEvent.mk 0 1 (⟨#[97]⟩ : ByteArray) 0 0 (List.replicate 32 (0 : Int)))) (L' := c_ApiEvent (ApiEvent.mk 0 1 (⟨#[97]⟩ : ByteArray) 0 0 (List.replicate 32 (0 : Int)))) (by kernel_rfl) ty26 hI (by kernel_rfl) (len_ApiEvent _ (by kernel_rfl)) (by rw [(len_ApiEvent _ (by kernel_rfl))]; kernel_rfl) (ones_app _ _ (by kernel_rfl) (ones_cA _)) (lset_all _ _ (Eq.trans (len_ApiEvent _ (by kernel_rfl)) (Eq.symm (len_ApiEvent _ (by kernel_rfl))))) ?_)
  intro w hI
  refine OpsT.done ?_
  refine Qn.then ?_
  refine CodT.seq ?_
  refine CodT.regionL [0, 1, 2, 3, 4, 5, 6] (by kernel_rfl) ?_
  refine OpsT.cons (Does.yi (Yl.load (d := 10) (T := 26) (v := .agg (c_ApiEvent (ApiEvent.mk 0 1 (⟨#[97]⟩ : ByteArray) 0 0 (List.replicate 32 (0 : Int)))).toArray) (by kernel_rfl) (ldBN ty26 (l := c_ApiEvent (ApiEvent.mk 0 1 (⟨#[97]⟩ : ByteArray) 0 0 (List.replicate 32 (0 : Int)))) (o := 0) (cs := c_ApiEvent (ApiEvent.mk 0 1 (⟨#[97]⟩ : ByteArray) 0 0 (List.replicate 32 (0 : Int)))) (ent_refl _) (len_ApiEvent _ (by kernel_rfl)) (whole _ _ (len_ApiEvent _ (by kernel_rfl))))) hI ?_)
  obtain ⟨⟨y3, y4⟩, hc2, h0⟩ := bindS h0
  try dsimp only at h0
  refine OpsT.cons (Does.call (d := some 11) (n := 10) (vs := [.agg (c_ApiEvent (ApiEvent.mk 0 1 (⟨#[97]⟩ : ByteArray) 0 0 (List.replicate 32 (0 : Int)))).toArray]) (by kernel_rfl) en10 (c10 w0 w _ _ hI (ApiEvent.mk 0 1 (⟨#[97]⟩ : ByteArray) 0 0 (List.replicate 32 (0 : Int))) (by kernel_rfl) _ hc2) ?_)
  rintro e w ⟨rfl, hI⟩
  refine ⟨_, rfl, ?_⟩
  refine OpsT.pures (r := []) [2, 3, 4, 5, 6] [1, 2, 3] (S' := [(1, .pointer (some ⟨b1, 0, none⟩)), (2, .string y3), (3, .bool y4)]) (by kernel_rfl) ?_
  refine OpsT.done ?_
  refine Qn.then ?_
  refine CodT.seq ?_
  refine CodT.regionL [0, 1, 2, 3, 4, 5, 6, 7, 8, 9, 10] (by kernel_rfl) ?_
  refine OpsT.pures (r := [1, 2, 3, 4, 5, 6, 7, 8, 9, 10]) [0] [1, 2, 3, 15] (S' := [(1, .pointer (some ⟨b1, 0, none⟩)), (2, .string y3), (3, .bool y4), (15, .string y3)]) (by kernel_rfl) ?_
  obtain ⟨hg5, h0⟩ := guardS h0
  refine OpsT.cons (Does.yi (Yl.cat (d := 16) (T := 9) (x := y3) (y := (⟨#[122]⟩ : ByteArray)) (by kernel_rfl) hg5) hI ?_)
  obtain ⟨⟨y7, y9, y10⟩, hc6, h0⟩ := bindS h0
  try dsimp only at h0
  refine OpsT.cons (Does.call (d := some 17) (n := 16) (vs := [.string (y3 ++ (⟨#[122]⟩ : ByteArray))]) (by kernel_rfl) en16 (c16 w0 w _ _ hI (y3 ++ (⟨#[122]⟩ : ByteArray)) _ hc6) ?_)
  rintro e w ⟨rfl, hl8, hI⟩
  refine ⟨_, rfl, ?_⟩
  refine OpsT.pures (r := [7, 8, 9, 10]) [3, 4, 5, 6] [1, 2, 3, 18, 19, 20] (S' := [(1, .pointer (some ⟨b1, 0, none⟩)), (2, .string y3), (3, .bool y4), (18, .agg (c_ApiEvent y7).toArray), (19, .string y9), (20, .bool y10)]) (by kernel_rfl) ?_
  refine OpsT.cons (Does.allocL (d := 4) (T := 26) (c_ApiEvent (ApiEvent.mk 0 0 (⟨#[]⟩ : ByteArray) 0 0 (List.replicate 32 (0 : Int)))) (by kernel_rfl) ty26 hI (by kernel_rfl) ?_)
  intro b11 w hI
  refine OpsT.cons (Does.storeLit (T := 26) (b := b11) (o := 0) (v := .agg (c_ApiEvent y7).toArray) (l := c_ApiEvent (ApiEvent.mk 0 0 (⟨#[]⟩ : ByteArray) 0 0 (List.replicate 32 (0 : Int)))) (vs := c_ApiEvent y7) (L' := c_ApiEvent y7) (by kernel_rfl) ty26 hI (by kernel_rfl) (len_ApiEvent _ hl8) (by rw [(len_ApiEvent _ (by kernel_rfl))]; kernel_rfl) (ones_app _ _ (by kernel_rfl) (ones_cA _)) (lset_all _ _ (Eq.trans (len_ApiEvent _ hl8) (Eq.symm (len_ApiEvent _ (by kernel_rfl))))) ?_)
  intro w hI
  refine OpsT.pures (r := []) [9, 10] [1, 2, 3, 4, 5, 6] (S' := [(1, .pointer (some ⟨b1, 0, none⟩)), (2, .string y3), (3, .bool y4), (4, .pointer (some ⟨b11, 0, none⟩)), (5, .string y9), (6, .bool y10)]) (by kernel_rfl) ?_
  refine OpsT.done ?_
  refine Qn.then ?_
  refine CodT.seq ?_
  refine CodT.regionL [0, 1, 2, 3, 4, 5] (by kernel_rfl) ?_
  refine OpsT.cons (Does.yi (Yl.load (d := 21) (T := 26) (v := .agg (c_ApiEvent (ApiEvent.mk 0 1 (⟨#[97]⟩ : ByteArray) 0 0 (List.replicate 32 (0 : Int)))).toArray) (by kernel_rfl) (ldBN ty26 (l := c_ApiEvent (ApiEvent.mk 0 1 (⟨#[97]⟩ : ByteArray) 0 0 (List.replicate 32 (0 : Int)))) (o := 0) (cs := c_ApiEvent (ApiEvent.mk 0 1 (⟨#[97]⟩ : ByteArray) 0 0 (List.replicate 32 (0 : Int)))) (pick2 _ _ _) (len_ApiEvent _ (by kernel_rfl)) (whole _ _ (len_ApiEvent _ (by kernel_rfl))))) hI ?_)
  refine OpsT.pures (r := [3, 4, 5]) [1, 2] [1, 2, 3, 4, 5, 6, 21, 22, 23] (S' := [(1, .pointer (some ⟨b1, 0, none⟩)), (2, .string y3), (3, .bool y4), (4, .pointer (some ⟨b11, 0, none⟩)), (5, .string y9), (6, .bool y10), (21, .agg (c_ApiEvent (ApiEvent.mk 0 1 (⟨#[97]⟩ : ByteArray) 0 0 (List.replicate 32 (0 : Int)))).toArray), (22, .agg (c_ApiEvent (ApiEvent.mk 7 0 (⟨#[]⟩ : ByteArray) 0 0 (List.replicate 32 (0 : Int)))).toArray), (23, .agg (c_ApiEvent (ApiEvent.mk 6 1 (⟨#[]⟩ : ByteArray) 0 0 (List.replicate 32 (0 : Int)))).toArray)]) (by kernel_rfl) ?_
  refine OpsT.cons (Does.buildSliceAll (en := c_ApiEvent) (d := 24) (n := 3) (T := 40) (ps := [(0, .agg (c_ApiEvent (ApiEvent.mk 0 1 (⟨#[97]⟩ : ByteArray) 0 0 (List.replicate 32 (0 : Int)))).toArray), (1, .agg (c_ApiEvent (ApiEvent.mk 7 0 (⟨#[]⟩ : ByteArray) 0 0 (List.replicate 32 (0 : Int)))).toArray), (2, .agg (c_ApiEvent (ApiEvent.mk 6 1 (⟨#[]⟩ : ByteArray) 0 0 (List.replicate 32 (0 : Int)))).toArray)]) (fun y => .agg (c_ApiEvent y).toArray) (fun _ => rfl) ([(ApiEvent.mk 0 1 (⟨#[97]⟩ : ByteArray) 0 0 (List.replicate 32 (0 : Int))), (ApiEvent.mk 7 0 (⟨#[]⟩ : ByteArray) 0 0 (List.replicate 32 (0 : Int))), (ApiEvent.mk 6 1 (⟨#[]⟩ : ByteArray) 0 0 (List.replicate 32 (0 : Int)))] : List ApiEvent) (by kernel_rfl) rfl Go.Proofs.Try.underlying40 ty26 rfl (by kernel_rfl) (by kernel_rfl) (by decide +kernel) (List.forall_mem_cons.2 ⟨(len_ApiEvent _ (by kernel_rfl)), (List.forall_mem_cons.2 ⟨(len_ApiEvent _ (by kernel_rfl)), (List.forall_mem_cons.2 ⟨(len_ApiEvent _ (by kernel_rfl)), (fun _ h => by cases h)⟩)⟩)⟩) hI ?_)
  intro b12 w hI
  obtain ⟨Z13, hle14, hr15, hI⟩ := ownS_freeze hI
  obtain ⟨y17, hc16, h0⟩ := bindS h0
  try dsimp only at h0
  refine OpsT.cons (Does.call (d := some 25) (n := 18) (vs := [.slice (some ⟨b12, 0, none⟩) (([(ApiEvent.mk 0 1 (⟨#[97]⟩ : ByteArray) 0 0 (List.replicate 32 (0 : Int))), (ApiEvent.mk 7 0 (⟨#[]⟩ : ByteArray) 0 0 (List.replicate 32 (0 : Int))), (ApiEvent.mk 6 1 (⟨#[]⟩ : ByteArray) 0 0 (List.replicate 32 (0 : Int)))] : List ApiEvent).length) 3]) (by kernel_rfl) en18 (c18 w0 w _ _ hI (some ⟨b12, 0, none⟩) 3 ([(ApiEvent.mk 0 1 (⟨#[97]⟩ : ByteArray) 0 0 (List.replicate 32 (0 : Int))), (ApiEvent.mk 7 0 (⟨#[]⟩ : ByteArray) 0 0 (List.replicate 32 (0 : Int))), (ApiEvent.mk 6 1 (⟨#[]⟩ : ByteArray) 0 0 (List.replicate 32 (0 : Int)))] : List ApiEvent) hr15 _ hc16) ?_)
  rintro e w ⟨A18, cp19, rfl, hI⟩
  refine ⟨_, rfl, ?_⟩
  refine OpsT.pures (r := []) [5] [1, 2, 3, 4, 5, 6, 7] (S' := [(1, .pointer (some ⟨b1, 0, none⟩)), (2, .string y3), (3, .bool y4), (4, .pointer (some ⟨b11, 0, none⟩)), (5, .string y9), (6, .bool y10), (7, .slice A18 y17.length cp19)]) (by kernel_rfl) ?_
  refine OpsT.done ?_
  refine Qn.then ?_
  obtain ⟨r1, h1, h0⟩ := bindS h0
  refine CodT.meet (fun a w => ∃ (x20 : Bool), x20 = r1 ∧ Fr 73 [(0, .bool x20)] a ∧ Inv w0 Z13 w A) ?_ ?_
  ·
    refine CodT.drawI (n := 48) [] (by kernel_rfl) (by kernel_rfl) hI ?_
    intro w hI
    refine GmT.p' 0 26 (.string y3) (by kernel_rfl) (by kernel_rfl) ?_
    refine GmT.o (i := 1) (by kernel_rfl) (Does.buildSlice (en := (cI .u8)) (d := 27) (n := 4) (T := 41) (ps := [(0, .int .u8 0), (1, .int .u8 1), (2, .int .u8 1), (3, .int .u8 97)]) ([0, 1, 1, 97] : List Int) (by kernel_rfl) Go.Proofs.Try.underlying41 ty5 (by kernel_rfl) (by kernel_rfl) (by kernel_rfl) (by kernel_rfl) (len_all (fun _ => rfl)) hI ?_)
    intro b21 w hI
    have hC := hI
    have hC := hC.drop
    refine ⟨fun _ _ => hC, ?_⟩
    refine GmT.o (i := 2) (by kernel_rfl) (Does.b2sOwn (d := 28) (src := 41) (dst := 9) (xs := ([0, 1, 1, 97] : List Int)) (by kernel_rfl) Go.Proofs.Try.underlying41 Go.Proofs.Try.underlying5 Go.Proofs.Try.underlying9 hI ?_)
    have hC := hI
    have hC := hC.drop
    refine ⟨fun _ _ => hC, ?_⟩
    refine GmT.p' 3 29 (.bool (seq y3 (strOfNums ([0, 1, 1, 97] : List Int)))) (by kernel_rfl) (by kernel_rfl) ?_
    refine GmT.p' 4 30 (.bool (seq y3 (strOfNums ([0, 1, 1, 97] : List Int)))) (by kernel_rfl) (by kernel_rfl) ?_
    by_cases hb22 : (seq y3 (strOfNums ([0, 1, 1, 97] : List Int))) = true
    · rw [if_pos hb22] at h1
      refine GmT.keep [1, 3, 4, 5, 6, 7, 30] (S' := [(1, .pointer (some ⟨b1, 0, none⟩)), (3, .bool y4), (4, .pointer (some ⟨b11, 0, none⟩)), (5, .string y9), (6, .bool y10), (7, .slice A18 y17.length cp19), (30, .bool true)]) (by (try simp only [hb22]); kernel_rfl) ?_
      refine GmT.p' 5 31 (.bool y4) (by kernel_rfl) (by kernel_rfl) ?_
      refine GmT.p' 6 32 (.bool y4) (by kernel_rfl) (by kernel_rfl) ?_
      refine GmT.p' 7 33 (.bool y4) (by kernel_rfl) (by kernel_rfl) ?_
      by_cases hb23 : y4 = true
      · rw [if_pos hb23] at h1
        refine GmT.keep [1, 4, 5, 6, 7, 33] (S' := [(1, .pointer (some ⟨b1, 0, none⟩)), (4, .pointer (some ⟨b11, 0, none⟩)), (5, .string y9), (6, .bool y10), (7, .slice A18 y17.length cp19), (33, .bool true)]) (by (try simp only [hb23]); kernel_rfl) ?_
        have hC := hI
        have hC := hC.drop
        refine GmT.r (i := 8) 2 (by kernel_rfl) (by kernel_rfl) (Yl.load (d := 34) (T := 26) (v := .agg (c_ApiEvent y7).toArray) (by kernel_rfl) (ldBN ty26 (l := c_ApiEvent y7) (o := 0) (cs := c_ApiEvent y7) (pick2 _ _ _) (len_ApiEvent _ hl8) (whole _ _ (len_ApiEvent _ hl8)))) hC ?_
        have hC := hI
        have hC := hC.drop
        refine GmT.r (i := 9) 2 (by kernel_rfl) (by kernel_rfl) (Yl.load (d := 35) (T := 26) (v := .agg (c_ApiEvent (ApiEvent.mk 0 1 (⟨#[97]⟩ : ByteArray) 0 0 (List.replicate 32 (0 : Int)))).toArray) (by kernel_rfl) (ldBN ty26 (l := c_ApiEvent (ApiEvent.mk 0 1 (⟨#[97]⟩ : ByteArray) 0 0 (List.replicate 32 (0 : Int)))) (o := 0) (cs := c_ApiEvent (ApiEvent.mk 0 1 (⟨#[97]⟩ : ByteArray) 0 0 (List.replicate 32 (0 : Int)))) (pick3 _ _ _ _) (len_ApiEvent _ (by kernel_rfl)) (whole _ _ (len_ApiEvent _ (by kernel_rfl))))) hC ?_
        have hC := hI
        have hC := hC.drop
        refine GmT.r (i := 10) 2 (by kernel_rfl) (by kernel_rfl) (Yl.eqlS (d := 36) (T := 26) (xs := ([.int .i64 y7.Kind, .int .i64 y7.ID, .string y7.Name, .int .i64 y7.Time, .int .i64 y7.Len] : List Value) ++ (cA (Value.int .u8) y7.Sum)) (ys := ([.int .i64 0, .int .i64 1, .string (⟨#[97]⟩ : ByteArray), .int .i64 0, .int .i64 0] : List Value) ++ (cA (Value.int .u8) (List.replicate 32 (0 : Int)))) (r := eq_ApiEvent y7 (ApiEvent.mk 0 1 (⟨#[97]⟩ : ByteArray) 0 0 (List.replicate 32 (0 : Int)))) (by kernel_rfl) Go.Proofs.Try.underlying26 (by kernel_rfl) (by kernel_rfl) (.cons rfl (part1 (v := .int .i64 y7.Kind) ty22 (by kernel_rfl)) (part1 (v := .int .i64 0) ty22 (by kernel_rfl)) (eqI Go.Proofs.Try.underlying22) (.cons rfl (part1 (v := .int .i64 y7.ID) ty3 (by kernel_rfl)) (part1 (v := .int .i64 1) ty3 (by kernel_rfl)) (eqI Go.Proofs.Try.underlying3) (.cons rfl (part1 (v := .string y7.Name) ty9 (by kernel_rfl)) (part1 (v := .string (⟨#[97]⟩ : ByteArray)) ty9 (by kernel_rfl)) (eqS Go.Proofs.Try.underlying9) (.cons rfl (part1 (v := .int .i64 y7.Time) ty3 (by kernel_rfl)) (part1 (v := .int .i64 0) ty3 (by kernel_rfl)) (eqI Go.Proofs.Try.underlying3) (.cons rfl (part1 (v := .int .i64 y7.Len) ty3 (by kernel_rfl)) (part1 (v := .int .i64 0) ty3 (by kernel_rfl)) (eqI Go.Proofs.Try.underlying3) (.cons rfl (partN ty24 (tail_take _ _ _ _ _ (by kernel_rfl) hl8)) (partN ty24 (tail_take _ _ _ _ _ (by kernel_rfl) (by kernel_rfl))) (eqAr Go.Proofs.Try.underlying24 Go.Proofs.Try.underlying5 ty5 hl8 (by kernel_rfl)) .nil))))))) hC ?_
        refine GmT.p' 11 37 (.bool (eq_ApiEvent y7 (ApiEvent.mk 0 1 (⟨#[97]⟩ : ByteArray) 0 0 (List.replicate 32 (0 : Int))))) (by kernel_rfl) (by kernel_rfl) ?_
        refine GmT.p' 12 38 (.bool (eq_ApiEvent y7 (ApiEvent.mk 0 1 (⟨#[97]⟩ : ByteArray) 0 0 (List.replicate 32 (0 : Int))))) (by kernel_rfl) (by kernel_rfl) ?_
        by_cases hb24 : (eq_ApiEvent y7 (ApiEvent.mk 0 1 (⟨#[97]⟩ : ByteArray) 0 0 (List.replicate 32 (0 : Int)))) = true
        · rw [if_pos hb24] at h1
          refine GmT.keep [1, 5, 6, 7, 38] (S' := [(1, .pointer (some ⟨b1, 0, none⟩)), (5, .string y9), (6, .bool y10), (7, .slice A18 y17.length cp19), (38, .bool true)]) (by (try simp only [hb24]); kernel_rfl) ?_
          refine GmT.p' 13 39 (.string y9) (by kernel_rfl) (by kernel_rfl) ?_
          refine GmT.p' 14 40 (.bool (seq y9 (⟨#[122]⟩ : ByteArray))) (by kernel_rfl) (by kernel_rfl) ?_
          refine GmT.p' 15 41 (.bool (seq y9 (⟨#[122]⟩ : ByteArray))) (by kernel_rfl) (by kernel_rfl) ?_
          refine GmT.p' 16 42 (.bool (seq y9 (⟨#[122]⟩ : ByteArray))) (by kernel_rfl) (by kernel_rfl) ?_
          by_cases hb25 : (seq y9 (⟨#[122]⟩ : ByteArray)) = true
          · rw [if_pos hb25] at h1
            refine GmT.keep [1, 6, 7, 42] (S' := [(1, .pointer (some ⟨b1, 0, none⟩)), (6, .bool y10), (7, .slice A18 y17.length cp19), (42, .bool true)]) (by (try simp only [hb25]); kernel_rfl) ?_
            refine GmT.p' 17 43 (.bool y10) (by kernel_rfl) (by kernel_rfl) ?_
            refine GmT.p' 18 44 (.bool y10) (by kernel_rfl) (by kernel_rfl) ?_
            refine GmT.p' 19 45 (.bool y10) (by kernel_rfl) (by kernel_rfl) ?_
            by_cases hb26 : y10 = true
            · rw [if_pos hb26] at h1
              refine GmT.keep [1, 7, 45] (S' := [(1, .pointer (some ⟨b1, 0, none⟩)), (7, .slice A18 y17.length cp19), (45, .bool true)]) (by (try simp only [hb26]); kernel_rfl) ?_
              have hC := hI
              have hC := hC.drop
              refine GmT.r (i := 20) 2 (by kernel_rfl) (by kernel_rfl) (Yl.load (d := 46) (T := 26) (v := .agg (c_ApiEvent (ApiEvent.mk 0 1 (⟨#[97]⟩ : ByteArray) 0 0 (List.replicate 32 (0 : Int)))).toArray) (by kernel_rfl) (ldBN ty26 (l := c_ApiEvent (ApiEvent.mk 0 1 (⟨#[97]⟩ : ByteArray) 0 0 (List.replicate 32 (0 : Int)))) (o := 0) (cs := c_ApiEvent (ApiEvent.mk 0 1 (⟨#[97]⟩ : ByteArray) 0 0 (List.replicate 32 (0 : Int)))) (pick3 _ _ _ _) (len_ApiEvent _ (by kernel_rfl)) (whole _ _ (len_ApiEvent _ (by kernel_rfl))))) hC ?_
              refine GmT.several [21, 22] (by kernel_rfl) rfl ?_
              intro i hi; simp only [List.mem_cons, List.not_mem_nil, or_false] at hi; rcases hi with rfl | rfl
              ·
                obtain ⟨y28, hc27, h1⟩ := bindS h1
                try dsimp only at h1
                rw [lst_set]
                refine (Does.call (d := some 47) (n := 14) (vs := [.agg (c_ApiEvent (ApiEvent.mk 0 1 (⟨#[97]⟩ : ByteArray) 0 0 (List.replicate 32 (0 : Int)))).toArray]) (by kernel_rfl) en14 (c14 w0 w _ _ hI (ApiEvent.mk 0 1 (⟨#[97]⟩ : ByteArray) 0 0 (List.replicate 32 (0 : Int))) (by kernel_rfl) _ hc27) ?_)
                rintro e w ⟨rfl, hI⟩
                refine ⟨_, rfl, ?_⟩
                have hC := hI
                have hC := hC.drop
                refine ⟨fun _ _ => hC, ?_⟩
                refine GmT.o (i := 22) (by kernel_rfl) (Does.buildSlice (en := (cI .u8)) (d := 48) (n := 3) (T := 41) (ps := [(0, .int .u8 34), (1, .int .u8 97), (2, .int .u8 34)]) ([34, 97, 34] : List Int) (by kernel_rfl) Go.Proofs.Try.underlying41 ty5 (by kernel_rfl) (by kernel_rfl) (by kernel_rfl) (by kernel_rfl) (len_all (fun _ => rfl)) hI ?_)
                intro b29 w hI
                have hC := hI
                have hC := hC.drop
                have hC := hC.drop
                refine ⟨fun _ _ => hC, ?_⟩
                refine GmT.o (i := 23) (by kernel_rfl) (Does.b2sOwn (d := 49) (src := 41) (dst := 9) (xs := ([34, 97, 34] : List Int)) (by kernel_rfl) Go.Proofs.Try.underlying41 Go.Proofs.Try.underlying5 Go.Proofs.Try.underlying9 hI ?_)
                have hC := hI
                have hC := hC.drop
                have hC := hC.drop
                refine ⟨fun _ _ => hC, ?_⟩
                obtain ⟨hg30, h1⟩ := guardS h1
                have hC := hI
                have hC := hC.drop
                have hC := hC.drop
                refine GmT.r (i := 24) 2 (by kernel_rfl) (by kernel_rfl) (Yl.cat (d := 50) (T := 9) (x := (⟨#[99, 114, 101, 97, 116, 101, 32, 49, 32]⟩ : ByteArray)) (y := strOfNums ([34, 97, 34] : List Int)) (by kernel_rfl) hg30) hC ?_
                refine GmT.p' 25 51 (.bool (seq y28 ((⟨#[99, 114, 101, 97, 116, 101, 32, 49, 32]⟩ : ByteArray) ++ (strOfNums ([34, 97, 34] : List Int))))) (by kernel_rfl) (by kernel_rfl) ?_
                refine GmT.p' 26 52 (.bool (seq y28 ((⟨#[99, 114, 101, 97, 116, 101, 32, 49, 32]⟩ : ByteArray) ++ (strOfNums ([34, 97, 34] : List Int))))) (by kernel_rfl) (by kernel_rfl) ?_
                refine GmT.p' 27 53 (.bool (seq y28 ((⟨#[99, 114, 101, 97, 116, 101, 32, 49, 32]⟩ : ByteArray) ++ (strOfNums ([34, 97, 34] : List Int))))) (by kernel_rfl) (by kernel_rfl) ?_
                by_cases hb31 : (seq y28 ((⟨#[99, 114, 101, 97, 116, 101, 32, 49, 32]⟩ : ByteArray) ++ (strOfNums ([34, 97, 34] : List Int)))) = true
                · rw [if_pos hb31] at h1
                  refine GmT.keep [1, 7, 53] (S' := [(1, .pointer (some ⟨b1, 0, none⟩)), (7, .slice A18 y17.length cp19), (53, .bool true)]) (by (try simp only [hb31]); kernel_rfl) ?_
                  have hC := hI
                  have hC := hC.drop
                  have hC := hC.drop
                  refine GmT.r (i := 28) 2 (by kernel_rfl) (by kernel_rfl) (Yl.load (d := 54) (T := 26) (v := .agg (c_ApiEvent (ApiEvent.mk 0 1 (⟨#[97]⟩ : ByteArray) 0 0 (List.replicate 32 (0 : Int)))).toArray) (by kernel_rfl) (ldBN ty26 (l := c_ApiEvent (ApiEvent.mk 0 1 (⟨#[97]⟩ : ByteArray) 0 0 (List.replicate 32 (0 : Int)))) (o := 0) (cs := c_ApiEvent (ApiEvent.mk 0 1 (⟨#[97]⟩ : ByteArray) 0 0 (List.replicate 32 (0 : Int)))) (pick3 _ _ _ _) (len_ApiEvent _ (by kernel_rfl)) (whole _ _ (len_ApiEvent _ (by kernel_rfl))))) hC ?_
                  obtain ⟨y33, hc32, h1⟩ := bindS h1
                  try dsimp only at h1
                  refine GmT.o (i := 29) (by kernel_rfl) (Does.call (d := some 55) (n := 13) (vs := [.agg (c_ApiEvent (ApiEvent.mk 0 1 (⟨#[97]⟩ : ByteArray) 0 0 (List.replicate 32 (0 : Int)))).toArray]) (by kernel_rfl) en13 (c13 w0 w _ _ hI (ApiEvent.mk 0 1 (⟨#[97]⟩ : ByteArray) 0 0 (List.replicate 32 (0 : Int))) (by kernel_rfl) _ hc32) ?_)
                  rintro e w ⟨rfl, hI⟩
                  refine ⟨_, rfl, ?_⟩
                  have hC := hI
                  have hC := hC.drop
                  have hC := hC.drop
                  refine ⟨fun _ _ => hC, ?_⟩
                  refine GmT.p' 30 56 (.bool y33) (by kernel_rfl) (by kernel_rfl) ?_
                  refine GmT.p' 31 57 (.bool y33) (by kernel_rfl) (by kernel_rfl) ?_
                  by_cases hb34 : y33 = true
                  · rw [if_pos hb34] at h1
                    refine GmT.keep [7, 57] (S' := [(7, .slice A18 y17.length cp19), (57, .bool true)]) (by (try simp only [hb34]); kernel_rfl) ?_
                    refine GmT.p' 32 58 (.agg (c_ApiEvent (ApiEvent.mk 0 0 (⟨#[]⟩ : ByteArray) 0 0 (List.replicate 32 (0 : Int)))).toArray) (by kernel_rfl) (by kernel_rfl) ?_
                    obtain ⟨y36, hc35, h1⟩ := bindS h1
                    try dsimp only at h1
                    refine GmT.o (i := 33) (by kernel_rfl) (Does.call (d := some 59) (n := 13) (vs := [.agg (c_ApiEvent (ApiEvent.mk 0 0 (⟨#[]⟩ : ByteArray) 0 0 (List.replicate 32 (0 : Int)))).toArray]) (by kernel_rfl) en13 (c13 w0 w _ _ hI (ApiEvent.mk 0 0 (⟨#[]⟩ : ByteArray) 0 0 (List.replicate 32 (0 : Int))) (by kernel_rfl) _ hc35) ?_)
                    rintro e w ⟨rfl, hI⟩
                    refine ⟨_, rfl, ?_⟩
                    have hC := hI
                    have hC := hC.drop
                    have hC := hC.drop
                    refine ⟨fun _ _ => hC, ?_⟩
                    refine GmT.p' 34 60 (.bool (!y36)) (by kernel_rfl) (by kernel_rfl) ?_
                    refine GmT.p' 35 61 (.bool (!y36)) (by kernel_rfl) (by kernel_rfl) ?_
                    refine GmT.p' 36 62 (.bool (!y36)) (by kernel_rfl) (by kernel_rfl) ?_
                    by_cases hb37 : (!y36) = true
                    · rw [if_pos hb37] at h1
                      refine GmT.keep [7, 62] (S' := [(7, .slice A18 y17.length cp19), (62, .bool true)]) (by (try simp only [hb37]); kernel_rfl) ?_
                      refine GmT.p' 37 63 (.slice A18 y17.length cp19) (by kernel_rfl) (by kernel_rfl) ?_
                      refine GmT.p' 38 64 (.int .i64 (y17.length : Int)) (by kernel_rfl) (by kernel_rfl) ?_
                      refine GmT.p' 39 65 (.bool ((y17.length : Int) == 3)) (by kernel_rfl) (by kernel_rfl) ?_
                      refine GmT.p' 40 66 (.bool ((y17.length : Int) == 3)) (by kernel_rfl) (by kernel_rfl) ?_
                      refine GmT.p' 41 67 (.bool ((y17.length : Int) == 3)) (by kernel_rfl) (by kernel_rfl) ?_
                      by_cases hb38 : ((y17.length : Int) == 3) = true
                      · rw [if_pos hb38] at h1
                        refine GmT.keep [7, 67] (S' := [(7, .slice A18 y17.length cp19), (67, .bool true)]) (by (try simp only [hb38]); kernel_rfl) ?_
                        refine GmT.p' 42 68 (.slice A18 y17.length cp19) (by kernel_rfl) (by kernel_rfl) ?_
                        obtain ⟨hg39, h1⟩ := guardS h1
                        obtain ⟨g40, hA41, hr42, hl43⟩ := ownS_get (hI.mono (pick3 _ _ _ _)) hg39.1 hg39.2
                        have hC := hI
                        have hC := hC.drop
                        have hC := hC.drop
                        refine GmT.r (i := 43) 2 (by kernel_rfl) (by kernel_rfl) (Yl.indexSlice (d := 69) (T := 38) (cc := cp19) (k := .i64) (j := 2) (g := g40) (o := 0) (by kernel_rfl) Go.Proofs.Try.underlying38 ty3 hA41 hg39.1 hg39.2) hC ?_
                        have hC := hI
                        have hC := hC.drop
                        have hC := hC.drop
                        refine GmT.r (i := 44) 2 (by kernel_rfl) (by kernel_rfl) (Yl.load (d := 70) (T := 3) (v := .int .i64 (gt y17 2)) (by kernel_rfl) (ldR ty3 (v := .int .i64 (gt y17 2)) 0 (fun w hC => hr42 w0 w _ hC) (by kernel_rfl))) hC ?_
                        refine GmT.p' 45 71 (.bool ((gt y17 2) == 1)) (by kernel_rfl) (by kernel_rfl) ?_
                        refine GmT.p' 46 72 (.bool ((gt y17 2) == 1)) (by kernel_rfl) (by kernel_rfl) ?_
                        refine GmT.p' 47 0 (.bool ((gt y17 2) == 1)) (by kernel_rfl) (by kernel_rfl) ?_
                        refine GmT.done (by kernel_rfl) ?_
                        have hI := hI.drop
                        have hI := hI.drop
                        have hI := hI.drop
                        have hI := hI.drop
                        have hI := hI.drop
                        have e := someS h1
                        subst e
                        exact Qn.thenJ fun a ha => ⟨(gt y17 2) == 1, rfl, ha.keep [0] (by kernel_rfl), hI⟩
                      · rw [if_neg hb38] at h1
                        have hb38 : ((y17.length : Int) == 3) = false := by simpa using hb38
                        refine GmT.keep [7, 67] (S' := [(7, .slice A18 y17.length cp19), (67, .bool false)]) (by (try simp only [hb38]); kernel_rfl) ?_
                        refine GmT.p' 42 68 (undef) (by kernel_rfl) (by kernel_rfl) ?_
                        refine GmT.p' 43 69 (undef) (by kernel_rfl) (by kernel_rfl) ?_
                        refine GmT.p' 44 70 (undef) (by kernel_rfl) (by kernel_rfl) ?_
                        refine GmT.p' 45 71 (undef) (by kernel_rfl) (by kernel_rfl) ?_
                        refine GmT.p' 46 72 (.bool false) (by kernel_rfl) (by kernel_rfl) ?_
                        refine GmT.p' 47 0 (.bool false) (by kernel_rfl) (by kernel_rfl) ?_
                        refine GmT.done (by kernel_rfl) ?_
                        have hI := hI.drop
                        have hI := hI.drop
                        have hI := hI.drop
                        have hI := hI.drop
                        have hI := hI.drop
                        have e := someS h1
                        subst e
                        exact Qn.thenJ fun a ha => ⟨false, rfl, ha.keep [0] (by kernel_rfl), hI⟩
                    · rw [if_neg hb37] at h1
                      have hb37 : (!y36) = false := by simpa using hb37
                      refine GmT.keep [7, 62] (S' := [(7, .slice A18 y17.length cp19), (62, .bool false)]) (by (try simp only [hb37]); kernel_rfl) ?_
                      refine GmT.p' 37 63 (undef) (by kernel_rfl) (by kernel_rfl) ?_
                      refine GmT.p' 38 64 (undef) (by kernel_rfl) (by kernel_rfl) ?_
                      refine GmT.p' 39 65 (undef) (by kernel_rfl) (by kernel_rfl) ?_
                      refine GmT.p' 40 66 (.bool false) (by kernel_rfl) (by kernel_rfl) ?_
                      refine GmT.p' 41 67 (.bool false) (by kernel_rfl) (by kernel_rfl) ?_
                      refine GmT.p' 42 68 (undef) (by kernel_rfl) (by kernel_rfl) ?_
                      refine GmT.p' 43 69 (undef) (by kernel_rfl) (by kernel_rfl) ?_
                      refine GmT.p' 44 70 (undef) (by kernel_rfl) (by kernel_rfl) ?_
                      refine GmT.p' 45 71 (undef) (by kernel_rfl) (by kernel_rfl) ?_
                      refine GmT.p' 46 72 (.bool false) (by kernel_rfl) (by kernel_rfl) ?_
                      refine GmT.p' 47 0 (.bool false) (by kernel_rfl) (by kernel_rfl) ?_
                      refine GmT.done (by kernel_rfl) ?_
                      have hI := hI.drop
                      have hI := hI.drop
                      have hI := hI.drop
                      have hI := hI.drop
                      have hI := hI.drop
                      have e := someS h1
                      subst e
                      exact Qn.thenJ fun a ha => ⟨false, rfl, ha.keep [0] (by kernel_rfl), hI⟩
                  · rw [if_neg hb34] at h1
                    have hb34 : y33 = false := by simpa using hb34
                    refine GmT.keep [7, 57] (S' := [(7, .slice A18 y17.length cp19), (57, .bool false)]) (by (try simp only [hb34]); kernel_rfl) ?_
                    refine GmT.p' 32 58 (undef) (by kernel_rfl) (by kernel_rfl) ?_
                    refine GmT.p' 33 59 (undef) (by kernel_rfl) (by kernel_rfl) ?_
                    refine GmT.p' 34 60 (undef) (by kernel_rfl) (by kernel_rfl) ?_
                    refine GmT.p' 35 61 (.bool false) (by kernel_rfl) (by kernel_rfl) ?_
                    refine GmT.p' 36 62 (.bool false) (by kernel_rfl) (by kernel_rfl) ?_
                    refine GmT.p' 37 63 (undef) (by kernel_rfl) (by kernel_rfl) ?_
                    refine GmT.p' 38 64 (undef) (by kernel_rfl) (by kernel_rfl) ?_
                    refine GmT.p' 39 65 (undef) (by kernel_rfl) (by kernel_rfl) ?_
                    refine GmT.p' 40 66 (.bool false) (by kernel_rfl) (by kernel_rfl) ?_
                    refine GmT.p' 41 67 (.bool false) (by kernel_rfl) (by kernel_rfl) ?_
                    refine GmT.p' 42 68 (undef) (by kernel_rfl) (by kernel_rfl) ?_
                    refine GmT.p' 43 69 (undef) (by kernel_rfl) (by kernel_rfl) ?_
                    refine GmT.p' 44 70 (undef) (by kernel_rfl) (by kernel_rfl) ?_
                    refine GmT.p' 45 71 (undef) (by kernel_rfl) (by kernel_rfl) ?_
                    refine GmT.p' 46 72 (.bool false) (by kernel_rfl) (by kernel_rfl) ?_
                    refine GmT.p' 47 0 (.bool false) (by kernel_rfl) (by kernel_rfl) ?_
                    refine GmT.done (by kernel_rfl) ?_
                    have hI := hI.drop
                    have hI := hI.drop
                    have hI := hI.drop
                    have hI := hI.drop
                    have hI := hI.drop
                    have e := someS h1
                    subst e
                    exact Qn.thenJ fun a ha => ⟨false, rfl, ha.keep [0] (by kernel_rfl), hI⟩
                · rw [if_neg hb31] at h1
                  have hb31 : (seq y28 ((⟨#[99, 114, 101, 97, 116, 101, 32, 49, 32]⟩ : ByteArray) ++ (strOfNums ([34, 97, 34] : List Int)))) = false := by simpa using hb31
                  refine GmT.keep [1, 7, 53] (S' := [(1, .pointer (some ⟨b1, 0, none⟩)), (7, .slice A18 y17.length cp19), (53, .bool false)]) (by (try simp only [hb31]); kernel_rfl) ?_
                  refine GmT.p' 28 54 (undef) (by kernel_rfl) (by kernel_rfl) ?_
                  refine GmT.p' 29 55 (undef) (by kernel_rfl) (by kernel_rfl) ?_
                  refine GmT.p' 30 56 (.bool false) (by kernel_rfl) (by kernel_rfl) ?_
                  refine GmT.p' 31 57 (.bool false) (by kernel_rfl) (by kernel_rfl) ?_
                  refine GmT.p' 32 58 (undef) (by kernel_rfl) (by kernel_rfl) ?_
                  refine GmT.p' 33 59 (undef) (by kernel_rfl) (by kernel_rfl) ?_
                  refine GmT.p' 34 60 (undef) (by kernel_rfl) (by kernel_rfl) ?_
                  refine GmT.p' 35 61 (.bool false) (by kernel_rfl) (by kernel_rfl) ?_
                  refine GmT.p' 36 62 (.bool false) (by kernel_rfl) (by kernel_rfl) ?_
                  refine GmT.p' 37 63 (undef) (by kernel_rfl) (by kernel_rfl) ?_
                  refine GmT.p' 38 64 (undef) (by kernel_rfl) (by kernel_rfl) ?_
                  refine GmT.p' 39 65 (undef) (by kernel_rfl) (by kernel_rfl) ?_
                  refine GmT.p' 40 66 (.bool false) (by kernel_rfl) (by kernel_rfl) ?_
                  refine GmT.p' 41 67 (.bool false) (by kernel_rfl) (by kernel_rfl) ?_
                  refine GmT.p' 42 68 (undef) (by kernel_rfl) (by kernel_rfl) ?_
                  refine GmT.p' 43 69 (undef) (by kernel_rfl) (by kernel_rfl) ?_
                  refine GmT.p' 44 70 (undef) (by kernel_rfl) (by kernel_rfl) ?_
                  refine GmT.p' 45 71 (undef) (by kernel_rfl) (by kernel_rfl) ?_
                  refine GmT.p' 46 72 (.bool false) (by kernel_rfl) (by kernel_rfl) ?_
                  refine GmT.p' 47 0 (.bool false) (by kernel_rfl) (by kernel_rfl) ?_
                  refine GmT.done (by kernel_rfl) ?_
                  have hI := hI.drop
                  have hI := hI.drop
                  have hI := hI.drop
                  have hI := hI.drop
                  have hI := hI.drop
                  have e := someS h1
                  subst e
                  exact Qn.thenJ fun a ha => ⟨false, rfl, ha.keep [0] (by kernel_rfl), hI⟩
              ·
                rw [lst_set]
                refine (Does.buildSlice (en := (cI .u8)) (d := 48) (n := 3) (T := 41) (ps := [(0, .int .u8 34), (1, .int .u8 97), (2, .int .u8 34)]) ([34, 97, 34] : List Int) (by kernel_rfl) Go.Proofs.Try.underlying41 ty5 (by kernel_rfl) (by kernel_rfl) (by kernel_rfl) (by kernel_rfl) (len_all (fun _ => rfl)) hI ?_)
                intro b44 w hI
                have hC := hI
                have hC := hC.drop
                have hC := hC.drop
                refine ⟨fun _ _ => hC, ?_⟩
                refine GmT.several [21, 23] (by kernel_rfl) rfl ?_
                intro i hi; simp only [List.mem_cons, List.not_mem_nil, or_false] at hi; rcases hi with rfl | rfl
                ·
                  obtain ⟨y46, hc45, h1⟩ := bindS h1
                  try dsimp only at h1
                  rw [lst_set]
                  refine (Does.call (d := some 47) (n := 14) (vs := [.agg (c_ApiEvent (ApiEvent.mk 0 1 (⟨#[97]⟩ : ByteArray) 0 0 (List.replicate 32 (0 : Int)))).toArray]) (by kernel_rfl) en14 (c14 w0 w _ _ hI (ApiEvent.mk 0 1 (⟨#[97]⟩ : ByteArray) 0 0 (List.replicate 32 (0 : Int))) (by kernel_rfl) _ hc45) ?_)
                  rintro e w ⟨rfl, hI⟩
                  refine ⟨_, rfl, ?_⟩
                  have hC := hI
                  have hC := hC.drop
                  have hC := hC.drop
                  refine ⟨fun _ _ => hC, ?_⟩
                  refine GmT.o (i := 23) (by kernel_rfl) (Does.b2sOwn (d := 49) (src := 41) (dst := 9) (xs := ([34, 97, 34] : List Int)) (by kernel_rfl) Go.Proofs.Try.underlying41 Go.Proofs.Try.underlying5 Go.Proofs.Try.underlying9 hI ?_)
                  have hC := hI
                  have hC := hC.drop
                  have hC := hC.drop
                  refine ⟨fun _ _ => hC, ?_⟩
                  obtain ⟨hg47, h1⟩ := guardS h1
                  have hC := hI
                  have hC := hC.drop
                  have hC := hC.drop
                  refine GmT.r (i := 24) 2 (by kernel_rfl) (by kernel_rfl) (Yl.cat (d := 50) (T := 9) (x := (⟨#[99, 114, 101, 97, 116, 101, 32, 49, 32]⟩ : ByteArray)) (y := strOfNums ([34, 97, 34] : List Int)) (by kernel_rfl) hg47) hC ?_
                  refine GmT.p' 25 51 (.bool (seq y46 ((⟨#[99, 114, 101, 97, 116, 101, 32, 49, 32]⟩ : ByteArray) ++ (strOfNums ([34, 97, 34] : List Int))))) (by kernel_rfl) (by kernel_rfl) ?_
                  refine GmT.p' 26 52 (.bool (seq y46 ((⟨#[99, 114, 101, 97, 116, 101, 32, 49, 32]⟩ : ByteArray) ++ (strOfNums ([34, 97, 34] : List Int))))) (by kernel_rfl) (by kernel_rfl) ?_
                  refine GmT.p' 27 53 (.bool (seq y46 ((⟨#[99, 114, 101, 97, 116, 101, 32, 49, 32]⟩ : ByteArray) ++ (strOfNums ([34, 97, 34] : List Int))))) (by kernel_rfl) (by kernel_rfl) ?_
                  by_cases hb48 : (seq y46 ((⟨#[99, 114, 101, 97, 116, 101, 32, 49, 32]⟩ : ByteArray) ++ (strOfNums ([34, 97, 34] : List Int)))) = true
                  · rw [if_pos hb48] at h1
                    refine GmT.keep [1, 7, 53] (S' := [(1, .pointer (some ⟨b1, 0, none⟩)), (7, .slice A18 y17.length cp19), (53, .bool true)]) (by (try simp only [hb48]); kernel_rfl) ?_
                    have hC := hI
                    have hC := hC.drop
                    have hC := hC.drop
                    refine GmT.r (i := 28) 2 (by kernel_rfl) (by kernel_rfl) (Yl.load (d := 54) (T := 26) (v := .agg (c_ApiEvent (ApiEvent.mk 0 1 (⟨#[97]⟩ : ByteArray) 0 0 (List.replicate 32 (0 : Int)))).toArray) (by kernel_rfl) (ldBN ty26 (l := c_ApiEvent (ApiEvent.mk 0 1 (⟨#[97]⟩ : ByteArray) 0 0 (List.replicate 32 (0 : Int)))) (o := 0) (cs := c_ApiEvent (ApiEvent.mk 0 1 (⟨#[97]⟩ : ByteArray) 0 0 (List.replicate 32 (0 : Int)))) (pick3 _ _ _ _) (len_ApiEvent _ (by kernel_rfl)) (whole _ _ (len_ApiEvent _ (by kernel_rfl))))) hC ?_
                    obtain ⟨y50, hc49, h1⟩ := bindS h1
                    try dsimp only at h1
                    refine GmT.o (i := 29) (by kernel_rfl) (Does.call (d := some 55) (n := 13) (vs := [.agg (c_ApiEvent (ApiEvent.mk 0 1 (⟨#[97]⟩ : ByteArray) 0 0 (List.replicate 32 (0 : Int)))).toArray]) (by kernel_rfl) en13 (c13 w0 w _ _ hI (ApiEvent.mk 0 1 (⟨#[97]⟩ : ByteArray) 0 0 (List.replicate 32 (0 : Int))) (by kernel_rfl) _ hc49) ?_)
                    rintro e w ⟨rfl, hI⟩
                    refine ⟨_, rfl, ?_⟩
                    have hC := hI
                    have hC := hC.drop
                    have hC := hC.drop
                    refine ⟨fun _ _ => hC, ?_⟩
                    refine GmT.p' 30 56 (.bool y50) (by kernel_rfl) (by kernel_rfl) ?_
                    refine GmT.p' 31 57 (.bool y50) (by kernel_rfl) (by kernel_rfl) ?_
                    by_cases hb51 : y50 = true
                    · rw [if_pos hb51] at h1
                      refine GmT.keep [7, 57] (S' := [(7, .slice A18 y17.length cp19), (57, .bool true)]) (by (try simp only [hb51]); kernel_rfl) ?_
                      refine GmT.p' 32 58 (.agg (c_ApiEvent (ApiEvent.mk 0 0 (⟨#[]⟩ : ByteArray) 0 0 (List.replicate 32 (0 : Int)))).toArray) (by kernel_rfl) (by kernel_rfl) ?_
                      obtain ⟨y53, hc52, h1⟩ := bindS h1
                      try dsimp only at h1
                      refine GmT.o (i := 33) (by kernel_rfl) (Does.call (d := some 59) (n := 13) (vs := [.agg (c_ApiEvent (ApiEvent.mk 0 0 (⟨#[]⟩ : ByteArray) 0 0 (List.replicate 32 (0 : Int)))).toArray]) (by kernel_rfl) en13 (c13 w0 w _ _ hI (ApiEvent.mk 0 0 (⟨#[]⟩ : ByteArray) 0 0 (List.replicate 32 (0 : Int))) (by kernel_rfl) _ hc52) ?_)
                      rintro e w ⟨rfl, hI⟩
                      refine ⟨_, rfl, ?_⟩
                      have hC := hI
                      have hC := hC.drop
                      have hC := hC.drop
                      refine ⟨fun _ _ => hC, ?_⟩
                      refine GmT.p' 34 60 (.bool (!y53)) (by kernel_rfl) (by kernel_rfl) ?_
                      refine GmT.p' 35 61 (.bool (!y53)) (by kernel_rfl) (by kernel_rfl) ?_
                      refine GmT.p' 36 62 (.bool (!y53)) (by kernel_rfl) (by kernel_rfl) ?_
                      by_cases hb54 : (!y53) = true
                      · rw [if_pos hb54] at h1
                        refine GmT.keep [7, 62] (S' := [(7, .slice A18 y17.length cp19), (62, .bool true)]) (by (try simp only [hb54]); kernel_rfl) ?_
                        refine GmT.p' 37 63 (.slice A18 y17.length cp19) (by kernel_rfl) (by kernel_rfl) ?_
                        refine GmT.p' 38 64 (.int .i64 (y17.length : Int)) (by kernel_rfl) (by kernel_rfl) ?_
                        refine GmT.p' 39 65 (.bool ((y17.length : Int) == 3)) (by kernel_rfl) (by kernel_rfl) ?_
                        refine GmT.p' 40 66 (.bool ((y17.length : Int) == 3)) (by kernel_rfl) (by kernel_rfl) ?_
                        refine GmT.p' 41 67 (.bool ((y17.length : Int) == 3)) (by kernel_rfl) (by kernel_rfl) ?_
                        by_cases hb55 : ((y17.length : Int) == 3) = true
                        · rw [if_pos hb55] at h1
                          refine GmT.keep [7, 67] (S' := [(7, .slice A18 y17.length cp19), (67, .bool true)]) (by (try simp only [hb55]); kernel_rfl) ?_
                          refine GmT.p' 42 68 (.slice A18 y17.length cp19) (by kernel_rfl) (by kernel_rfl) ?_
                          obtain ⟨hg56, h1⟩ := guardS h1
                          obtain ⟨g57, hA58, hr59, hl60⟩ := ownS_get (hI.mono (pick3 _ _ _ _)) hg56.1 hg56.2
                          have hC := hI
                          have hC := hC.drop
                          have hC := hC.drop
                          refine GmT.r (i := 43) 2 (by kernel_rfl) (by kernel_rfl) (Yl.indexSlice (d := 69) (T := 38) (cc := cp19) (k := .i64) (j := 2) (g := g57) (o := 0) (by kernel_rfl) Go.Proofs.Try.underlying38 ty3 hA58 hg56.1 hg56.2) hC ?_
                          have hC := hI
                          have hC := hC.drop
                          have hC := hC.drop
                          refine GmT.r (i := 44) 2 (by kernel_rfl) (by kernel_rfl) (Yl.load (d := 70) (T := 3) (v := .int .i64 (gt y17 2)) (by kernel_rfl) (ldR ty3 (v := .int .i64 (gt y17 2)) 0 (fun w hC => hr59 w0 w _ hC) (by kernel_rfl))) hC ?_
                          refine GmT.p' 45 71 (.bool ((gt y17 2) == 1)) (by kernel_rfl) (by kernel_rfl) ?_
                          refine GmT.p' 46 72 (.bool ((gt y17 2) == 1)) (by kernel_rfl) (by kernel_rfl) ?_
                          refine GmT.p' 47 0 (.bool ((gt y17 2) == 1)) (by kernel_rfl) (by kernel_rfl) ?_
                          refine GmT.done (by kernel_rfl) ?_
                          have hI := hI.drop
                          have hI := hI.drop
                          have hI := hI.drop
                          have hI := hI.drop
                          have hI := hI.drop
                          have e := someS h1
                          subst e
                          exact Qn.thenJ fun a ha => ⟨(gt y17 2) == 1, rfl, ha.keep [0] (by kernel_rfl), hI⟩
                        · rw [if_neg hb55] at h1
                          have hb55 : ((y17.length : Int) == 3) = false := by simpa using hb55
                          refine GmT.keep [7, 67] (S' := [(7, .slice A18 y17.length cp19), (67, .bool false)]) (by (try simp only [hb55]); kernel_rfl) ?_
                          refine GmT.p' 42 68 (undef) (by kernel_rfl) (by kernel_rfl) ?_
                          refine GmT.p' 43 69 (undef) (by kernel_rfl) (by kernel_rfl) ?_
                          refine GmT.p' 44 70 (undef) (by kernel_rfl) (by kernel_rfl) ?_
                          refine GmT.p' 45 71 (undef) (by kernel_rfl) (by kernel_rfl) ?_
                          refine GmT.p' 46 72 (.bool false) (by kernel_rfl) (by kernel_rfl) ?_
                          refine GmT.p' 47 0 (.bool false) (by kernel_rfl) (by kernel_rfl) ?_
                          refine GmT.done (by kernel_rfl) ?_
                          have hI := hI.drop
                          have hI := hI.drop
                          have hI := hI.drop
                          have hI := hI.drop
                          have hI := hI.drop
                          have e := someS h1
                          subst e
                          exact Qn.thenJ fun a ha => ⟨false, rfl, ha.keep [0] (by kernel_rfl), hI⟩
                      · rw [if_neg hb54] at h1
                        have hb54 : (!y53) = false := by simpa using hb54
                        refine GmT.keep [7, 62] (S' := [(7, .slice A18 y17.length cp19), (62, .bool false)]) (by (try simp only [hb54]); kernel_rfl) ?_
                        refine GmT.p' 37 63 (undef) (by kernel_rfl) (by kernel_rfl) ?_
                        refine GmT.p' 38 64 (undef) (by kernel_rfl) (by kernel_rfl) ?_
                        refine GmT.p' 39 65 (undef) (by kernel_rfl) (by kernel_rfl) ?_
                        refine GmT.p' 40 66 (.bool false) (by kernel_rfl) (by kernel_rfl) ?_
                        refine GmT.p' 41 67 (.bool false) (by kernel_rfl) (by kernel_rfl) ?_
                        refine GmT.p' 42 68 (undef) (by kernel_rfl) (by kernel_rfl) ?_
                        refine GmT.p' 43 69 (undef) (by kernel_rfl) (by kernel_rfl) ?_
                        refine GmT.p' 44 70 (undef) (by kernel_rfl) (by kernel_rfl) ?_
                        refine GmT.p' 45 71 (undef) (by kernel_rfl) (by kernel_rfl) ?_
                        refine GmT.p' 46 72 (.bool false) (by kernel_rfl) (by kernel_rfl) ?_
                        refine GmT.p' 47 0 (.bool false) (by kernel_rfl) (by kernel_rfl) ?_
                        refine GmT.done (by kernel_rfl) ?_
                        have hI := hI.drop
                        have hI := hI.drop
                        have hI := hI.drop
                        have hI := hI.drop
                        have hI := hI.drop
                        have e := someS h1
                        subst e
                        exact Qn.thenJ fun a ha => ⟨false, rfl, ha.keep [0] (by kernel_rfl), hI⟩
                    · rw [if_neg hb51] at h1
                      have hb51 : y50 = false := by simpa using hb51
                      refine GmT.keep [7, 57] (S' := [(7, .slice A18 y17.length cp19), (57, .bool false)]) (by (try simp only [hb51]); kernel_rfl) ?_
                      refine GmT.p' 32 58 (undef) (by kernel_rfl) (by kernel_rfl) ?_
                      refine GmT.p' 33 59 (undef) (by kernel_rfl) (by kernel_rfl) ?_
                      refine GmT.p' 34 60 (undef) (by kernel_rfl) (by kernel_rfl) ?_
                      refine GmT.p' 35 61 (.bool false) (by kernel_rfl) (by kernel_rfl) ?_
                      refine GmT.p' 36 62 (.bool false) (by kernel_rfl) (by kernel_rfl) ?_
                      refine GmT.p' 37 63 (undef) (by kernel_rfl) (by kernel_rfl) ?_
                      refine GmT.p' 38 64 (undef) (by kernel_rfl) (by kernel_rfl) ?_
                      refine GmT.p' 39 65 (undef) (by kernel_rfl) (by kernel_rfl) ?_
                      refine GmT.p' 40 66 (.bool false) (by kernel_rfl) (by kernel_rfl) ?_
                      refine GmT.p' 41 67 (.bool false) (by kernel_rfl) (by kernel_rfl) ?_
                      refine GmT.p' 42 68 (undef) (by kernel_rfl) (by kernel_rfl) ?_
                      refine GmT.p' 43 69 (undef) (by kernel_rfl) (by kernel_rfl) ?_
                      refine GmT.p' 44 70 (undef) (by kernel_rfl) (by kernel_rfl) ?_
                      refine GmT.p' 45 71 (undef) (by kernel_rfl) (by kernel_rfl) ?_
                      refine GmT.p' 46 72 (.bool false) (by kernel_rfl) (by kernel_rfl) ?_
                      refine GmT.p' 47 0 (.bool false) (by kernel_rfl) (by kernel_rfl) ?_
                      refine GmT.done (by kernel_rfl) ?_
                      have hI := hI.drop
                      have hI := hI.drop
                      have hI := hI.drop
                      have hI := hI.drop
                      have hI := hI.drop
                      have e := someS h1
                      subst e
                      exact Qn.thenJ fun a ha => ⟨false, rfl, ha.keep [0] (by kernel_rfl), hI⟩
                  · rw [if_neg hb48] at h1
                    have hb48 : (seq y46 ((⟨#[99, 114, 101, 97, 116, 101, 32, 49, 32]⟩ : ByteArray) ++ (strOfNums ([34, 97, 34] : List Int)))) = false := by simpa using hb48
                    refine GmT.keep [1, 7, 53] (S' := [(1, .pointer (some ⟨b1, 0, none⟩)), (7, .slice A18 y17.length cp19), (53, .bool false)]) (by (try simp only [hb48]); kernel_rfl) ?_
                    refine GmT.p' 28 54 (undef) (by kernel_rfl) (by kernel_rfl) ?_
                    refine GmT.p' 29 55 (undef) (by kernel_rfl) (by kernel_rfl) ?_
                    refine GmT.p' 30 56 (.bool false) (by kernel_rfl) (by kernel_rfl) ?_
                    refine GmT.p' 31 57 (.bool false) (by kernel_rfl) (by kernel_rfl) ?_
                    refine GmT.p' 32 58 (undef) (by kernel_rfl) (by kernel_rfl) ?_
                    refine GmT.p' 33 59 (undef) (by kernel_rfl) (by kernel_rfl) ?_
                    refine GmT.p' 34 60 (undef) (by kernel_rfl) (by kernel_rfl) ?_
                    refine GmT.p' 35 61 (.bool false) (by kernel_rfl) (by kernel_rfl) ?_
                    refine GmT.p' 36 62 (.bool false) (by kernel_rfl) (by kernel_rfl) ?_
                    refine GmT.p' 37 63 (undef) (by kernel_rfl) (by kernel_rfl) ?_
                    refine GmT.p' 38 64 (undef) (by kernel_rfl) (by kernel_rfl) ?_
                    refine GmT.p' 39 65 (undef) (by kernel_rfl) (by kernel_rfl) ?_
                    refine GmT.p' 40 66 (.bool false) (by kernel_rfl) (by kernel_rfl) ?_
                    refine GmT.p' 41 67 (.bool false) (by kernel_rfl) (by kernel_rfl) ?_
                    refine GmT.p' 42 68 (undef) (by kernel_rfl) (by kernel_rfl) ?_
                    refine GmT.p' 43 69 (undef) (by kernel_rfl) (by kernel_rfl) ?_
                    refine GmT.p' 44 70 (undef) (by kernel_rfl) (by kernel_rfl) ?_
                    refine GmT.p' 45 71 (undef) (by kernel_rfl) (by kernel_rfl) ?_
                    refine GmT.p' 46 72 (.bool false) (by kernel_rfl) (by kernel_rfl) ?_
                    refine GmT.p' 47 0 (.bool false) (by kernel_rfl) (by kernel_rfl) ?_
                    refine GmT.done (by kernel_rfl) ?_
                    have hI := hI.drop
                    have hI := hI.drop
                    have hI := hI.drop
                    have hI := hI.drop
                    have hI := hI.drop
                    have e := someS h1
                    subst e
                    exact Qn.thenJ fun a ha => ⟨false, rfl, ha.keep [0] (by kernel_rfl), hI⟩
                ·
                  rw [lst_set]
                  refine (Does.b2sOwn (d := 49) (src := 41) (dst := 9) (xs := ([34, 97, 34] : List Int)) (by kernel_rfl) Go.Proofs.Try.underlying41 Go.Proofs.Try.underlying5 Go.Proofs.Try.underlying9 hI ?_)
                  have hC := hI
                  have hC := hC.drop
                  have hC := hC.drop
                  refine ⟨fun _ _ => hC, ?_⟩
                  obtain ⟨y63, hc62, h1⟩ := bindS h1
                  try dsimp only at h1
                  obtain ⟨hg61, h1⟩ := guardS h1
                  have hC := hI
                  have hC := hC.drop
                  have hC := hC.drop
                  refine GmT.r (i := 24) 2 (by kernel_rfl) (by kernel_rfl) (Yl.cat (d := 50) (T := 9) (x := (⟨#[99, 114, 101, 97, 116, 101, 32, 49, 32]⟩ : ByteArray)) (y := strOfNums ([34, 97, 34] : List Int)) (by kernel_rfl) hg61) hC ?_
                  refine GmT.o (i := 21) (by kernel_rfl) (Does.call (d := some 47) (n := 14) (vs := [.agg (c_ApiEvent (ApiEvent.mk 0 1 (⟨#[97]⟩ : ByteArray) 0 0 (List.replicate 32 (0 : Int)))).toArray]) (by kernel_rfl) en14 (c14 w0 w _ _ hI (ApiEvent.mk 0 1 (⟨#[97]⟩ : ByteArray) 0 0 (List.replicate 32 (0 : Int))) (by kernel_rfl) _ hc62) ?_)
                  rintro e w ⟨rfl, hI⟩
                  refine ⟨_, rfl, ?_⟩
                  have hC := hI
                  have hC := hC.drop
                  have hC := hC.drop
                  refine ⟨fun _ _ => hC, ?_⟩
                  refine GmT.p' 25 51 (.bool (seq y63 ((⟨#[99, 114, 101, 97, 116, 101, 32, 49, 32]⟩ : ByteArray) ++ (strOfNums ([34, 97, 34] : List Int))))) (by kernel_rfl) (by kernel_rfl) ?_
                  refine GmT.p' 26 52 (.bool (seq y63 ((⟨#[99, 114, 101, 97, 116, 101, 32, 49, 32]⟩ : ByteArray) ++ (strOfNums ([34, 97, 34] : List Int))))) (by kernel_rfl) (by kernel_rfl) ?_
                  refine GmT.p' 27 53 (.bool (seq y63 ((⟨#[99, 114, 101, 97, 116, 101, 32, 49, 32]⟩ : ByteArray) ++ (strOfNums ([34, 97, 34] : List Int))))) (by kernel_rfl) (by kernel_rfl) ?_
                  by_cases hb64 : (seq y63 ((⟨#[99, 114, 101, 97, 116, 101, 32, 49, 32]⟩ : ByteArray) ++ (strOfNums ([34, 97, 34] : List Int)))) = true
                  · rw [if_pos hb64] at h1
                    refine GmT.keep [1, 7, 53] (S' := [(1, .pointer (some ⟨b1, 0, none⟩)), (7, .slice A18 y17.length cp19), (53, .bool true)]) (by (try simp only [hb64]); kernel_rfl) ?_
                    have hC := hI
                    have hC := hC.drop
                    have hC := hC.drop
                    refine GmT.r (i := 28) 2 (by kernel_rfl) (by kernel_rfl) (Yl.load (d := 54) (T := 26) (v := .agg (c_ApiEvent (ApiEvent.mk 0 1 (⟨#[97]⟩ : ByteArray) 0 0 (List.replicate 32 (0 : Int)))).toArray) (by kernel_rfl) (ldBN ty26 (l := c_ApiEvent (ApiEvent.mk 0 1 (⟨#[97]⟩ : ByteArray) 0 0 (List.replicate 32 (0 : Int)))) (o := 0) (cs := c_ApiEvent (ApiEvent.mk 0 1 (⟨#[97]⟩ : ByteArray) 0 0 (List.replicate 32 (0 : Int)))) (pick3 _ _ _ _) (len_ApiEvent _ (by kernel_rfl)) (whole _ _ (len_ApiEvent _ (by kernel_rfl))))) hC ?_
                    obtain ⟨y66, hc65, h1⟩ := bindS h1
                    try dsimp only at h1
                    refine GmT.o (i := 29) (by kernel_rfl) (Does.call (d := some 55) (n := 13) (vs := [.agg (c_ApiEvent (ApiEvent.mk 0 1 (⟨#[97]⟩ : ByteArray) 0 0 (List.replicate 32 (0 : Int)))).toArray]) (by kernel_rfl) en13 (c13 w0 w _ _ hI (ApiEvent.mk 0 1 (⟨#[97]⟩ : ByteArray) 0 0 (List.replicate 32 (0 : Int))) (by kernel_rfl) _ hc65) ?_)
                    rintro e w ⟨rfl, hI⟩
                    refine ⟨_, rfl, ?_⟩
                    have hC := hI
                    have hC := hC.drop
                    have hC := hC.drop
                    refine ⟨fun _ _ => hC, ?_⟩
                    refine GmT.p' 30 56 (.bool y66) (by kernel_rfl) (by kernel_rfl) ?_
                    refine GmT.p' 31 57 (.bool y66) (by kernel_rfl) (by kernel_rfl) ?_
                    by_cases hb67 : y66 = true
                    · rw [if_pos hb67] at h1
                      refine GmT.keep [7, 57] (S' := [(7, .slice A18 y17.length cp19), (57, .bool true)]) (by (try simp only [hb67]); kernel_rfl) ?_
                      refine GmT.p' 32 58 (.agg (c_ApiEvent (ApiEvent.mk 0 0 (⟨#[]⟩ : ByteArray) 0 0 (List.replicate 32 (0 : Int)))).toArray) (by kernel_rfl) (by kernel_rfl) ?_
                      obtain ⟨y69, hc68, h1⟩ := bindS h1
                      try dsimp only at h1
                      refine GmT.o (i := 33) (by kernel_rfl) (Does.call (d := some 59) (n := 13) (vs := [.agg (c_ApiEvent (ApiEvent.mk 0 0 (⟨#[]⟩ : ByteArray) 0 0 (List.replicate 32 (0 : Int)))).toArray]) (by kernel_rfl) en13 (c13 w0 w _ _ hI (ApiEvent.mk 0 0 (⟨#[]⟩ : ByteArray) 0 0 (List.replicate 32 (0 : Int))) (by kernel_rfl) _ hc68) ?_)
                      rintro e w ⟨rfl, hI⟩
                      refine ⟨_, rfl, ?_⟩
                      have hC := hI
                      have hC := hC.drop
                      have hC := hC.drop
                      refine ⟨fun _ _ => hC, ?_⟩
                      refine GmT.p' 34 60 (.bool (!y69)) (by kernel_rfl) (by kernel_rfl) ?_
                      refine GmT.p' 35 61 (.bool (!y69)) (by kernel_rfl) (by kernel_rfl) ?_
                      refine GmT.p' 36 62 (.bool (!y69)) (by kernel_rfl) (by kernel_rfl) ?_
                      by_cases hb70 : (!y69) = true
                      · rw [if_pos hb70] at h1
                        refine GmT.keep [7, 62] (S' := [(7, .slice A18 y17.length cp19), (62, .bool true)]) (by (try simp only [hb70]); kernel_rfl) ?_
                        refine GmT.p' 37 63 (.slice A18 y17.length cp19) (by kernel_rfl) (by kernel_rfl) ?_
                        refine GmT.p' 38 64 (.int .i64 (y17.length : Int)) (by kernel_rfl) (by kernel_rfl) ?_
                        refine GmT.p' 39 65 (.bool ((y17.length : Int) == 3)) (by kernel_rfl) (by kernel_rfl) ?_
                        refine GmT.p' 40 66 (.bool ((y17.length : Int) == 3)) (by kernel_rfl) (by kernel_rfl) ?_
                        refine GmT.p' 41 67 (.bool ((y17.length : Int) == 3)) (by kernel_rfl) (by kernel_rfl) ?_
                        by_cases hb71 : ((y17.length : Int) == 3) = true
                        · rw [if_pos hb71] at h1
                          refine GmT.keep [7, 67] (S' := [(7, .slice A18 y17.length cp19), (67, .bool true)]) (by (try simp only [hb71]); kernel_rfl) ?_
                          refine GmT.p' 42 68 (.slice A18 y17.length cp19) (by kernel_rfl) (by kernel_rfl) ?_
                          obtain ⟨hg72, h1⟩ := guardS h1
                          obtain ⟨g73, hA74, hr75, hl76⟩ := ownS_get (hI.mono (pick3 _ _ _ _)) hg72.1 hg72.2
                          have hC := hI
                          have hC := hC.drop
                          have hC := hC.drop
                          refine GmT.r (i := 43) 2 (by kernel_rfl) (by kernel_rfl) (Yl.indexSlice (d := 69) (T := 38) (cc := cp19) (k := .i64) (j := 2) (g := g73) (o := 0) (by kernel_rfl) Go.Proofs.Try.underlying38 ty3 hA74 hg72.1 hg72.2) hC ?_
                          have hC := hI
                          have hC := hC.drop
                          have hC := hC.drop
                          refine GmT.r (i := 44) 2 (by kernel_rfl) (by kernel_rfl) (Yl.load (d := 70) (T := 3) (v := .int .i64 (gt y17 2)) (by kernel_rfl) (ldR ty3 (v := .int .i64 (gt y17 2)) 0 (fun w hC => hr75 w0 w _ hC) (by kernel_rfl))) hC ?_
                          refine GmT.p' 45 71 (.bool ((gt y17 2) == 1)) (by kernel_rfl) (by kernel_rfl) ?_
                          refine GmT.p' 46 72 (.bool ((gt y17 2) == 1)) (by kernel_rfl) (by kernel_rfl) ?_
                          refine GmT.p' 47 0 (.bool ((gt y17 2) == 1)) (by kernel_rfl) (by kernel_rfl) ?_
                          refine GmT.done (by kernel_rfl) ?_
                          have hI := hI.drop
                          have hI := hI.drop
                          have hI := hI.drop
                          have hI := hI.drop
                          have hI := hI.drop
                          have e := someS h1
                          subst e
                          exact Qn.thenJ fun a ha => ⟨(gt y17 2) == 1, rfl, ha.keep [0] (by kernel_rfl), hI⟩
                        · rw [if_neg hb71] at h1
                          have hb71 : ((y17.length : Int) == 3) = false := by simpa using hb71
                          refine GmT.keep [7, 67] (S' := [(7, .slice A18 y17.length cp19), (67, .bool false)]) (by (try simp only [hb71]); kernel_rfl) ?_
                          refine GmT.p' 42 68 (undef) (by kernel_rfl) (by kernel_rfl) ?_
                          refine GmT.p' 43 69 (undef) (by kernel_rfl) (by kernel_rfl) ?_
                          refine GmT.p' 44 70 (undef) (by kernel_rfl) (by kernel_rfl) ?_
                          refine GmT.p' 45 71 (undef) (by kernel_rfl) (by kernel_rfl) ?_
                          refine GmT.p' 46 72 (.bool false) (by kernel_rfl) (by kernel_rfl) ?_
                          refine GmT.p' 47 0 (.bool false) (by kernel_rfl) (by kernel_rfl) ?_
                          refine GmT.done (by kernel_rfl) ?_
                          have hI := hI.drop
                          have hI := hI.drop
                          have hI := hI.drop
                          have hI := hI.drop
                          have hI := hI.drop
                          have e := someS h1
                          subst e
                          exact Qn.thenJ fun a ha => ⟨false, rfl, ha.keep [0] (by kernel_rfl), hI⟩
                      · rw [if_neg hb70] at h1
                        have hb70 : (!y69) = false := by simpa using hb70
                        refine GmT.keep [7, 62] (S' := [(7, .slice A18 y17.length cp19), (62, .bool false)]) (by (try simp only [hb70]); kernel_rfl) ?_
                        refine GmT.p' 37 63 (undef) (by kernel_rfl) (by kernel_rfl) ?_
                        refine GmT.p' 38 64 (undef) (by kernel_rfl) (by kernel_rfl) ?_
                        refine GmT.p' 39 65 (undef) (by kernel_rfl) (by kernel_rfl) ?_
                        refine GmT.p' 40 66 (.bool false) (by kernel_rfl) (by kernel_rfl) ?_
                        refine GmT.p' 41 67 (.bool false) (by kernel_rfl) (by kernel_rfl) ?_
                        refine GmT.p' 42 68 (undef) (by kernel_rfl) (by kernel_rfl) ?_
                        refine GmT.p' 43 69 (undef) (by kernel_rfl) (by kernel_rfl) ?_
                        refine GmT.p' 44 70 (undef) (by kernel_rfl) (by kernel_rfl) ?_
                        refine GmT.p' 45 71 (undef) (by kernel_rfl) (by kernel_rfl) ?_
                        refine GmT.p' 46 72 (.bool false) (by kernel_rfl) (by kernel_rfl) ?_
                        refine GmT.p' 47 0 (.bool false) (by kernel_rfl) (by kernel_rfl) ?_
                        refine GmT.done (by kernel_rfl) ?_
                        have hI := hI.drop
                        have hI := hI.drop
                        have hI := hI.drop
                        have hI := hI.drop
                        have hI := hI.drop
                        have e := someS h1
                        subst e
                        exact Qn.thenJ fun a ha => ⟨false, rfl, ha.keep [0] (by kernel_rfl), hI⟩
                    · rw [if_neg hb67] at h1
                      have hb67 : y66 = false := by simpa using hb67
                      refine GmT.keep [7, 57] (S' := [(7, .slice A18 y17.length cp19), (57, .bool false)]) (by (try simp only [hb67]); kernel_rfl) ?_
                      refine GmT.p' 32 58 (undef) (by kernel_rfl) (by kernel_rfl) ?_
                      refine GmT.p' 33 59 (undef) (by kernel_rfl) (by kernel_rfl) ?_
                      refine GmT.p' 34 60 (undef) (by kernel_rfl) (by kernel_rfl) ?_
                      refine GmT.p' 35 61 (.bool false) (by kernel_rfl) (by kernel_rfl) ?_
                      refine GmT.p' 36 62 (.bool false) (by kernel_rfl) (by kernel_rfl) ?_
                      refine GmT.p' 37 63 (undef) (by kernel_rfl) (by kernel_rfl) ?_
                      refine GmT.p' 38 64 (undef) (by kernel_rfl) (by kernel_rfl) ?_
                      refine GmT.p' 39 65 (undef) (by kernel_rfl) (by kernel_rfl) ?_
                      refine GmT.p' 40 66 (.bool false) (by kernel_rfl) (by kernel_rfl) ?_
                      refine GmT.p' 41 67 (.bool false) (by kernel_rfl) (by kernel_rfl) ?_
                      refine GmT.p' 42 68 (undef) (by kernel_rfl) (by kernel_rfl) ?_
                      refine GmT.p' 43 69 (undef) (by kernel_rfl) (by kernel_rfl) ?_
                      refine GmT.p' 44 70 (undef) (by kernel_rfl) (by kernel_rfl) ?_
                      refine GmT.p' 45 71 (undef) (by kernel_rfl) (by kernel_rfl) ?_
                      refine GmT.p' 46 72 (.bool false) (by kernel_rfl) (by kernel_rfl) ?_
                      refine GmT.p' 47 0 (.bool false) (by kernel_rfl) (by kernel_rfl) ?_
                      refine GmT.done (by kernel_rfl) ?_
                      have hI := hI.drop
                      have hI := hI.drop
                      have hI := hI.drop
                      have hI := hI.drop
                      have hI := hI.drop
                      have e := someS h1
                      subst e
                      exact Qn.thenJ fun a ha => ⟨false, rfl, ha.keep [0] (by kernel_rfl), hI⟩
                  · rw [if_neg hb64] at h1
                    have hb64 : (seq y63 ((⟨#[99, 114, 101, 97, 116, 101, 32, 49, 32]⟩ : ByteArray) ++ (strOfNums ([34, 97, 34] : List Int)))) = false := by simpa using hb64
                    refine GmT.keep [1, 7, 53] (S' := [(1, .pointer (some ⟨b1, 0, none⟩)), (7, .slice A18 y17.length cp19), (53, .bool false)]) (by (try simp only [hb64]); kernel_rfl) ?_
                    refine GmT.p' 28 54 (undef) (by kernel_rfl) (by kernel_rfl) ?_
                    refine GmT.p' 29 55 (undef) (by kernel_rfl) (by kernel_rfl) ?_
                    refine GmT.p' 30 56 (.bool false) (by kernel_rfl) (by kernel_rfl) ?_
                    refine GmT.p' 31 57 (.bool false) (by kernel_rfl) (by kernel_rfl) ?_
                    refine GmT.p' 32 58 (undef) (by kernel_rfl) (by kernel_rfl) ?_
                    refine GmT.p' 33 59 (undef) (by kernel_rfl) (by kernel_rfl) ?_
                    refine GmT.p' 34 60 (undef) (by kernel_rfl) (by kernel_rfl) ?_
                    refine GmT.p' 35 61 (.bool false) (by kernel_rfl) (by kernel_rfl) ?_
                    refine GmT.p' 36 62 (.bool false) (by kernel_rfl) (by kernel_rfl) ?_
                    refine GmT.p' 37 63 (undef) (by kernel_rfl) (by kernel_rfl) ?_
                    refine GmT.p' 38 64 (undef) (by kernel_rfl) (by kernel_rfl) ?_
                    refine GmT.p' 39 65 (undef) (by kernel_rfl) (by kernel_rfl) ?_
                    refine GmT.p' 40 66 (.bool false) (by kernel_rfl) (by kernel_rfl) ?_
                    refine GmT.p' 41 67 (.bool false) (by kernel_rfl) (by kernel_rfl) ?_
                    refine GmT.p' 42 68 (undef) (by kernel_rfl) (by kernel_rfl) ?_
                    refine GmT.p' 43 69 (undef) (by kernel_rfl) (by kernel_rfl) ?_
                    refine GmT.p' 44 70 (undef) (by kernel_rfl) (by kernel_rfl) ?_
                    refine GmT.p' 45 71 (undef) (by kernel_rfl) (by kernel_rfl) ?_
                    refine GmT.p' 46 72 (.bool false) (by kernel_rfl) (by kernel_rfl) ?_
                    refine GmT.p' 47 0 (.bool false) (by kernel_rfl) (by kernel_rfl) ?_
                    refine GmT.done (by kernel_rfl) ?_
                    have hI := hI.drop
                    have hI := hI.drop
                    have hI := hI.drop
                    have hI := hI.drop
                    have hI := hI.drop
                    have e := someS h1
                    subst e
                    exact Qn.thenJ fun a ha => ⟨false, rfl, ha.keep [0] (by kernel_rfl), hI⟩
            · rw [if_neg hb26] at h1
              have hb26 : y10 = false := by simpa using hb26
              refine GmT.keep [1, 7, 45] (S' := [(1, .pointer (some ⟨b1, 0, none⟩)), (7, .slice A18 y17.length cp19), (45, .bool false)]) (by (try simp only [hb26]); kernel_rfl) ?_
              refine GmT.p' 20 46 (undef) (by kernel_rfl) (by kernel_rfl) ?_
              refine GmT.p' 21 47 (undef) (by kernel_rfl) (by kernel_rfl) ?_
              refine GmT.p' 22 48 (undef) (by kernel_rfl) (by kernel_rfl) ?_
              refine GmT.p' 23 49 (undef) (by kernel_rfl) (by kernel_rfl) ?_
              refine GmT.p' 24 50 (undef) (by kernel_rfl) (by kernel_rfl) ?_
              refine GmT.p' 25 51 (undef) (by kernel_rfl) (by kernel_rfl) ?_
              refine GmT.p' 26 52 (.bool false) (by kernel_rfl) (by kernel_rfl) ?_
              refine GmT.p' 27 53 (.bool false) (by kernel_rfl) (by kernel_rfl) ?_
              refine GmT.p' 28 54 (undef) (by kernel_rfl) (by kernel_rfl) ?_
              refine GmT.p' 29 55 (undef) (by kernel_rfl) (by kernel_rfl) ?_
              refine GmT.p' 30 56 (.bool false) (by kernel_rfl) (by kernel_rfl) ?_
              refine GmT.p' 31 57 (.bool false) (by kernel_rfl) (by kernel_rfl) ?_
              refine GmT.p' 32 58 (undef) (by kernel_rfl) (by kernel_rfl) ?_
              refine GmT.p' 33 59 (undef) (by kernel_rfl) (by kernel_rfl) ?_
              refine GmT.p' 34 60 (undef) (by kernel_rfl) (by kernel_rfl) ?_
              refine GmT.p' 35 61 (.bool false) (by kernel_rfl) (by kernel_rfl) ?_
              refine GmT.p' 36 62 (.bool false) (by kernel_rfl) (by kernel_rfl) ?_
              refine GmT.p' 37 63 (undef) (by kernel_rfl) (by kernel_rfl) ?_
              refine GmT.p' 38 64 (undef) (by kernel_rfl) (by kernel_rfl) ?_
              refine GmT.p' 39 65 (undef) (by kernel_rfl) (by kernel_rfl) ?_
              refine GmT.p' 40 66 (.bool false) (by kernel_rfl) (by kernel_rfl) ?_
              refine GmT.p' 41 67 (.bool false) (by kernel_rfl) (by kernel_rfl) ?_
              refine GmT.p' 42 68 (undef) (by kernel_rfl) (by kernel_rfl) ?_
              refine GmT.p' 43 69 (undef) (by kernel_rfl) (by kernel_rfl) ?_
              refine GmT.p' 44 70 (undef) (by kernel_rfl) (by kernel_rfl) ?_
              refine GmT.p' 45 71 (undef) (by kernel_rfl) (by kernel_rfl) ?_
              refine GmT.p' 46 72 (.bool false) (by kernel_rfl) (by kernel_rfl) ?_
              refine GmT.p' 47 0 (.bool false) (by kernel_rfl) (by kernel_rfl) ?_
              refine GmT.done (by kernel_rfl) ?_
              have hI := hI.drop
              have hI := hI.drop
              have hI := hI.drop
              have hI := hI.drop
              have e := someS h1
              subst e
              exact Qn.thenJ fun a ha => ⟨false, rfl, ha.keep [0] (by kernel_rfl), hI⟩
          · rw [if_neg hb25] at h1
            have hb25 : (seq y9 (⟨#[122]⟩ : ByteArray)) = false := by simpa using hb25
            refine GmT.keep [1, 6, 7, 42] (S' := [(1, .pointer (some ⟨b1, 0, none⟩)), (6, .bool y10), (7, .slice A18 y17.length cp19), (42, .bool false)]) (by (try simp only [hb25]); kernel_rfl) ?_
            refine GmT.p' 17 43 (undef) (by kernel_rfl) (by kernel_rfl) ?_
            refine GmT.p' 18 44 (.bool false) (by kernel_rfl) (by kernel_rfl) ?_
            refine GmT.p' 19 45 (.bool false) (by kernel_rfl) (by kernel_rfl) ?_
            refine GmT.p' 20 46 (undef) (by kernel_rfl) (by kernel_rfl) ?_
            refine GmT.p' 21 47 (undef) (by kernel_rfl) (by kernel_rfl) ?_
            refine GmT.p' 22 48 (undef) (by kernel_rfl) (by kernel_rfl) ?_
            refine GmT.p' 23 49 (undef) (by kernel_rfl) (by kernel_rfl) ?_
            refine GmT.p' 24 50 (undef) (by kernel_rfl) (by kernel_rfl) ?_
            refine GmT.p' 25 51 (undef) (by kernel_rfl) (by kernel_rfl) ?_
            refine GmT.p' 26 52 (.bool false) (by kernel_rfl) (by kernel_rfl) ?_
            refine GmT.p' 27 53 (.bool false) (by kernel_rfl) (by kernel_rfl) ?_
            refine GmT.p' 28 54 (undef) (by kernel_rfl) (by kernel_rfl) ?_
            refine GmT.p' 29 55 (undef) (by kernel_rfl) (by kernel_rfl) ?_
            refine GmT.p' 30 56 (.bool false) (by kernel_rfl) (by kernel_rfl) ?_
            refine GmT.p' 31 57 (.bool false) (by kernel_rfl) (by kernel_rfl) ?_
            refine GmT.p' 32 58 (undef) (by kernel_rfl) (by kernel_rfl) ?_
            refine GmT.p' 33 59 (undef) (by kernel_rfl) (by kernel_rfl) ?_
            refine GmT.p' 34 60 (undef) (by kernel_rfl) (by kernel_rfl) ?_
            refine GmT.p' 35 61 (.bool false) (by kernel_rfl) (by kernel_rfl) ?_
            refine GmT.p' 36 62 (.bool false) (by kernel_rfl) (by kernel_rfl) ?_
            refine GmT.p' 37 63 (undef) (by kernel_rfl) (by kernel_rfl) ?_
            refine GmT.p' 38 64 (undef) (by kernel_rfl) (by kernel_rfl) ?_
            refine GmT.p' 39 65 (undef) (by kernel_rfl) (by kernel_rfl) ?_
            refine GmT.p' 40 66 (.bool false) (by kernel_rfl) (by kernel_rfl) ?_
            refine GmT.p' 41 67 (.bool false) (by kernel_rfl) (by kernel_rfl) ?_
            refine GmT.p' 42 68 (undef) (by kernel_rfl) (by kernel_rfl) ?_
            refine GmT.p' 43 69 (undef) (by kernel_rfl) (by kernel_rfl) ?_
            refine GmT.p' 44 70 (undef) (by kernel_rfl) (by kernel_rfl) ?_
            refine GmT.p' 45 71 (undef) (by kernel_rfl) (by kernel_rfl) ?_
            refine GmT.p' 46 72 (.bool false) (by kernel_rfl) (by kernel_rfl) ?_
            refine GmT.p' 47 0 (.bool false) (by kernel_rfl) (by kernel_rfl) ?_
            refine GmT.done (by kernel_rfl) ?_
            have hI := hI.drop
            have hI := hI.drop
            have hI := hI.drop
            have hI := hI.drop
            have e := someS h1
            subst e
            exact Qn.thenJ fun a ha => ⟨false, rfl, ha.keep [0] (by kernel_rfl), hI⟩
        · rw [if_neg hb24] at h1
          have hb24 : (eq_ApiEvent y7 (ApiEvent.mk 0 1 (⟨#[97]⟩ : ByteArray) 0 0 (List.replicate 32 (0 : Int)))) = false := by simpa using hb24
          refine GmT.keep [1, 5, 6, 7, 38] (S' := [(1, .pointer (some ⟨b1, 0, none⟩)), (5, .string y9), (6, .bool y10), (7, .slice A18 y17.length cp19), (38, .bool false)]) (by (try simp only [hb24]); kernel_rfl) ?_
          refine GmT.p' 13 39 (undef) (by kernel_rfl) (by kernel_rfl) ?_
          refine GmT.p' 14 40 (undef) (by kernel_rfl) (by kernel_rfl) ?_
          refine GmT.p' 15 41 (.bool false) (by kernel_rfl) (by kernel_rfl) ?_
          refine GmT.p' 16 42 (.bool false) (by kernel_rfl) (by kernel_rfl) ?_
          refine GmT.p' 17 43 (undef) (by kernel_rfl) (by kernel_rfl) ?_
          refine GmT.p' 18 44 (.bool false) (by kernel_rfl) (by kernel_rfl) ?_
          refine GmT.p' 19 45 (.bool false) (by kernel_rfl) (by kernel_rfl) ?_
          refine GmT.p' 20 46 (undef) (by kernel_rfl) (by kernel_rfl) ?_
          refine GmT.p' 21 47 (undef) (by kernel_rfl) (by kernel_rfl) ?_
          refine GmT.p' 22 48 (undef) (by kernel_rfl) (by kernel_rfl) ?_
          refine GmT.p' 23 49 (undef) (by kernel_rfl) (by kernel_rfl) ?_
          refine GmT.p' 24 50 (undef) (by kernel_rfl) (by kernel_rfl) ?_
          refine GmT.p' 25 51 (undef) (by kernel_rfl) (by kernel_rfl) ?_
          refine GmT.p' 26 52 (.bool false) (by kernel_rfl) (by kernel_rfl) ?_
          refine GmT.p' 27 53 (.bool false) (by kernel_rfl) (by kernel_rfl) ?_
          refine GmT.p' 28 54 (undef) (by kernel_rfl) (by kernel_rfl) ?_
          refine GmT.p' 29 55 (undef) (by kernel_rfl) (by kernel_rfl) ?_
          refine GmT.p' 30 56 (.bool false) (by kernel_rfl) (by kernel_rfl) ?_
          refine GmT.p' 31 57 (.bool false) (by kernel_rfl) (by kernel_rfl) ?_
          refine GmT.p' 32 58 (undef) (by kernel_rfl) (by kernel_rfl) ?_
          refine GmT.p' 33 59 (undef) (by kernel_rfl) (by kernel_rfl) ?_
          refine GmT.p' 34 60 (undef) (by kernel_rfl) (by kernel_rfl) ?_
          refine GmT.p' 35 61 (.bool false) (by kernel_rfl) (by kernel_rfl) ?_
          refine GmT.p' 36 62 (.bool false) (by kernel_rfl) (by kernel_rfl) ?_
          refine GmT.p' 37 63 (undef) (by kernel_rfl) (by kernel_rfl) ?_
          refine GmT.p' 38 64 (undef) (by kernel_rfl) (by kernel_rfl) ?_
          refine GmT.p' 39 65 (undef) (by kernel_rfl) (by kernel_rfl) ?_
          refine GmT.p' 40 66 (.bool false) (by kernel_rfl) (by kernel_rfl) ?_
          refine GmT.p' 41 67 (.bool false) (by kernel_rfl) (by kernel_rfl) ?_
          refine GmT.p' 42 68 (undef) (by kernel_rfl) (by kernel_rfl) ?_
          refine GmT.p' 43 69 (undef) (by kernel_rfl) (by kernel_rfl) ?_
          refine GmT.p' 44 70 (undef) (by kernel_rfl) (by kernel_rfl) ?_
          refine GmT.p' 45 71 (undef) (by kernel_rfl) (by kernel_rfl) ?_
          refine GmT.p' 46 72 (.bool false) (by kernel_rfl) (by kernel_rfl) ?_
          refine GmT.p' 47 0 (.bool false) (by kernel_rfl) (by kernel_rfl) ?_
          refine GmT.done (by kernel_rfl) ?_
          have hI := hI.drop
          have hI := hI.drop
          have hI := hI.drop
          have hI := hI.drop
          have e := someS h1
          subst e
          exact Qn.thenJ fun a ha => ⟨false, rfl, ha.keep [0] (by kernel_rfl), hI⟩
      · rw [if_neg hb23] at h1
        have hb23 : y4 = false := by simpa using hb23
        refine GmT.keep [1, 4, 5, 6, 7, 33] (S' := [(1, .pointer (some ⟨b1, 0, none⟩)), (4, .pointer (some ⟨b11, 0, none⟩)), (5, .string y9), (6, .bool y10), (7, .slice A18 y17.length cp19), (33, .bool false)]) (by (try simp only [hb23]); kernel_rfl) ?_
        refine GmT.p' 8 34 (undef) (by kernel_rfl) (by kernel_rfl) ?_
        refine GmT.p' 9 35 (undef) (by kernel_rfl) (by kernel_rfl) ?_
        refine GmT.p' 10 36 (undef) (by kernel_rfl) (by kernel_rfl) ?_
        refine GmT.p' 11 37 (.bool false) (by kernel_rfl) (by kernel_rfl) ?_
        refine GmT.p' 12 38 (.bool false) (by kernel_rfl) (by kernel_rfl) ?_
        refine GmT.p' 13 39 (undef) (by kernel_rfl) (by kernel_rfl) ?_
        refine GmT.p' 14 40 (undef) (by kernel_rfl) (by kernel_rfl) ?_
        refine GmT.p' 15 41 (.bool false) (by kernel_rfl) (by kernel_rfl) ?_
        refine GmT.p' 16 42 (.bool false) (by kernel_rfl) (by kernel_rfl) ?_
        refine GmT.p' 17 43 (undef) (by kernel_rfl) (by kernel_rfl) ?_
        refine GmT.p' 18 44 (.bool false) (by kernel_rfl) (by kernel_rfl) ?_
        refine GmT.p' 19 45 (.bool false) (by kernel_rfl) (by kernel_rfl) ?_
        refine GmT.p' 20 46 (undef) (by kernel_rfl) (by kernel_rfl) ?_
        refine GmT.p' 21 47 (undef) (by kernel_rfl) (by kernel_rfl) ?_
        refine GmT.p' 22 48 (undef) (by kernel_rfl) (by kernel_rfl) ?_
        refine GmT.p' 23 49 (undef) (by kernel_rfl) (by kernel_rfl) ?_
        refine GmT.p' 24 50 (undef) (by kernel_rfl) (by kernel_rfl) ?_
        refine GmT.p' 25 51 (undef) (by kernel_rfl) (by kernel_rfl) ?_
        refine GmT.p' 26 52 (.bool false) (by kernel_rfl) (by kernel_rfl) ?_
        refine GmT.p' 27 53 (.bool false) (by kernel_rfl) (by kernel_rfl) ?_
        refine GmT.p' 28 54 (undef) (by kernel_rfl) (by kernel_rfl) ?_
        refine GmT.p' 29 55 (undef) (by kernel_rfl) (by kernel_rfl) ?_
        refine GmT.p' 30 56 (.bool false) (by kernel_rfl) (by kernel_rfl) ?_
        refine GmT.p' 31 57 (.bool false) (by kernel_rfl) (by kernel_rfl) ?_
        refine GmT.p' 32 58 (undef) (by kernel_rfl) (by kernel_rfl) ?_
        refine GmT.p' 33 59 (undef) (by kernel_rfl) (by kernel_rfl) ?_
        refine GmT.p' 34 60 (undef) (by kernel_rfl) (by kernel_rfl) ?_
        refine GmT.p' 35 61 (.bool false) (by kernel_rfl) (by kernel_rfl) ?_
        refine GmT.p' 36 62 (.bool false) (by kernel_rfl) (by kernel_rfl) ?_
        refine GmT.p' 37 63 (undef) (by kernel_rfl) (by kernel_rfl) ?_
        refine GmT.p' 38 64 (undef) (by kernel_rfl) (by kernel_rfl) ?_
        refine GmT.p' 39 65 (undef) (by kernel_rfl) (by kernel_rfl) ?_
        refine GmT.p' 40 66 (.bool false) (by kernel_rfl) (by kernel_rfl) ?_
        refine GmT.p' 41 67 (.bool false) (by kernel_rfl) (by kernel_rfl) ?_
        refine GmT.p' 42 68 (undef) (by kernel_rfl) (by kernel_rfl) ?_
        refine GmT.p' 43 69 (undef) (by kernel_rfl) (by kernel_rfl) ?_
        refine GmT.p' 44 70 (undef) (by kernel_rfl) (by kernel_rfl) ?_
        refine GmT.p' 45 71 (undef) (by kernel_rfl) (by kernel_rfl) ?_
        refine GmT.p' 46 72 (.bool false) (by kernel_rfl) (by kernel_rfl) ?_
        refine GmT.p' 47 0 (.bool false) (by kernel_rfl) (by kernel_rfl) ?_
        refine GmT.done (by kernel_rfl) ?_
        have hI := hI.drop
        have hI := hI.drop
        have hI := hI.drop
        have hI := hI.drop
        have e := someS h1
        subst e
        exact Qn.thenJ fun a ha => ⟨false, rfl, ha.keep [0] (by kernel_rfl), hI⟩
    · rw [if_neg hb22] at h1
      have hb22 : (seq y3 (strOfNums ([0, 1, 1, 97] : List Int))) = false := by simpa using hb22
      refine GmT.keep [1, 3, 4, 5, 6, 7, 30] (S' := [(1, .pointer (some ⟨b1, 0, none⟩)), (3, .bool y4), (4, .pointer (some ⟨b11, 0, none⟩)), (5, .string y9), (6, .bool y10), (7, .slice A18 y17.length cp19), (30, .bool false)]) (by (try simp only [hb22]); kernel_rfl) ?_
      refine GmT.p' 5 31 (undef) (by kernel_rfl) (by kernel_rfl) ?_
      refine GmT.p' 6 32 (.bool false) (by kernel_rfl) (by kernel_rfl) ?_
      refine GmT.p' 7 33 (.bool false) (by kernel_rfl) (by kernel_rfl) ?_
      refine GmT.p' 8 34 (undef) (by kernel_rfl) (by kernel_rfl) ?_
      refine GmT.p' 9 35 (undef) (by kernel_rfl) (by kernel_rfl) ?_
      refine GmT.p' 10 36 (undef) (by kernel_rfl) (by kernel_rfl) ?_
      refine GmT.p' 11 37 (.bool false) (by kernel_rfl) (by kernel_rfl) ?_
      refine GmT.p' 12 38 (.bool false) (by kernel_rfl) (by kernel_rfl) ?_
      refine GmT.p' 13 39 (undef) (by kernel_rfl) (by kernel_rfl) ?_
      refine GmT.p' 14 40 (undef) (by kernel_rfl) (by kernel_rfl) ?_
      refine GmT.p' 15 41 (.bool false) (by kernel_rfl) (by kernel_rfl) ?_
      refine GmT.p' 16 42 (.bool false) (by kernel_rfl) (by kernel_rfl) ?_
      refine GmT.p' 17 43 (undef) (by kernel_rfl) (by kernel_rfl) ?_
      refine GmT.p' 18 44 (.bool false) (by kernel_rfl) (by kernel_rfl) ?_
      refine GmT.p' 19 45 (.bool false) (by kernel_rfl) (by kernel_rfl) ?_
      refine GmT.p' 20 46 (undef) (by kernel_rfl) (by kernel_rfl) ?_
      refine GmT.p' 21 47 (undef) (by kernel_rfl) (by kernel_rfl) ?_
      refine GmT.p' 22 48 (undef) (by kernel_rfl) (by kernel_rfl) ?_
      refine GmT.p' 23 49 (undef) (by kernel_rfl) (by kernel_rfl) ?_
      refine GmT.p' 24 50 (undef) (by kernel_rfl) (by kernel_rfl) ?_
      refine GmT.p' 25 51 (undef) (by kernel_rfl) (by kernel_rfl) ?_
      refine GmT.p' 26 52 (.bool false) (by kernel_rfl) (by kernel_rfl) ?_
      refine GmT.p' 27 53 (.bool false) (by kernel_rfl) (by kernel_rfl) ?_
      refine GmT.p' 28 54 (undef) (by kernel_rfl) (by kernel_rfl) ?_
      refine GmT.p' 29 55 (undef) (by kernel_rfl) (by kernel_rfl) ?_
      refine GmT.p' 30 56 (.bool false) (by kernel_rfl) (by kernel_rfl) ?_
      refine GmT.p' 31 57 (.bool false) (by kernel_rfl) (by kernel_rfl) ?_
      refine GmT.p' 32 58 (undef) (by kernel_rfl) (by kernel_rfl) ?_
      refine GmT.p' 33 59 (undef) (by kernel_rfl) (by kernel_rfl) ?_
      refine GmT.p' 34 60 (undef) (by kernel_rfl) (by kernel_rfl) ?_
      refine GmT.p' 35 61 (.bool false) (by kernel_rfl) (by kernel_rfl) ?_
      refine GmT.p' 36 62 (.bool false) (by kernel_rfl) (by kernel_rfl) ?_
      refine GmT.p' 37 63 (undef) (by kernel_rfl) (by kernel_rfl) ?_
      refine GmT.p' 38 64 (undef) (by kernel_rfl) (by kernel_rfl) ?_
      refine GmT.p' 39 65 (undef) (by kernel_rfl) (by kernel_rfl) ?_
      refine GmT.p' 40 66 (.bool false) (by kernel_rfl) (by kernel_rfl) ?_
      refine GmT.p' 41 67 (.bool false) (by kernel_rfl) (by kernel_rfl) ?_
      refine GmT.p' 42 68 (undef) (by kernel_rfl) (by kernel_rfl) ?_
      refine GmT.p' 43 69 (undef) (by kernel_rfl) (by kernel_rfl) ?_
      refine GmT.p' 44 70 (undef) (by kernel_rfl) (by kernel_rfl) ?_
      refine GmT.p' 45 71 (undef) (by kernel_rfl) (by kernel_rfl) ?_
      refine GmT.p' 46 72 (.bool false) (by kernel_rfl) (by kernel_rfl) ?_
      refine GmT.p' 47 0 (.bool false) (by kernel_rfl) (by kernel_rfl) ?_
      refine GmT.done (by kernel_rfl) ?_
      have hI := hI.drop
      have hI := hI.drop
      have hI := hI.drop
      have hI := hI.drop
      have e := someS h1
      subst e
      exact Qn.thenJ fun a ha => ⟨false, rfl, ha.keep [0] (by kernel_rfl), hI⟩
  ·
    rintro a w ⟨x20, rfl, ha, hI⟩
    try dsimp only at h0
    refine CodT.of ?_ ha
    refine CodT.ret ?_
    have e := someS h0
    subst e
    refine Qn.keep [0] (S' := [(0, .bool x20)]) (by kernel_rfl) ?_
    exact post_ret (v := .bool x20) (fun a ha => RunRes.run (vs := [.bool x20]) (.tmp (t := 0) (by kernel_rfl) .nil) ha (by kernel_rfl)) ⟨rfl, hI.weaken hle14⟩
set_option maxRecDepth 100000 in
set_option maxHeartbeats 4000000 in
/-- cenotaph/cenotaphref04.Num -/
theorem c22 (w0 w : World) (Z : Hp) (A : HP) (hI : Inv w0 Z w A) (a0 : Int) (r : ByteArray) (h0 : ref04_Num a0 = some r) :
    Calls prog 22 #[.int .i64 a0] w (fun e w' => e = .returned (.string r) ∧ Inv w0 Z w' A) := by
  have e4 := calls_intro (R := (fun e w' => e = .returned (.string r) ∧ Inv w0 Z w' A)) (w := w) (args := [.int .i64 a0]) (fn := Go.Proofs.Try.f22) 24 Go.Proofs.Try.func22 (by rfl) Go.Proofs.Try.ntmps22 (by kernel_rfl)
  refine e4 ?_
  clear e4
  unfold ref04_Num at h0
  refine CodT.seq ?_
  refine CodT.regionL [0] (by kernel_rfl) ?_
  refine OpsT.pures (r := []) [0] [0] (S' := [(0, .int .i64 a0)]) (by kernel_rfl) ?_
  refine OpsT.done ?_
  refine Qn.then ?_
  refine CodT.seq ?_
  refine CodT.regionL [0, 1, 2, 3] (by kernel_rfl) ?_
  refine OpsT.pures (r := []) [0, 1, 2, 3] [0] (S' := [(0, .int .i64 (if 1125899906842624 < (if 0 > a0 then 0 else a0) then 1125899906842624 else if 0 > a0 then 0 else a0))]) (by kernel_rfl) ?_
  refine OpsT.done ?_
  refine Qn.then ?_
  refine CodT.seq ?_
  refine CodT.regionL [0] (by kernel_rfl) ?_
  refine OpsT.pures (r := []) [0] [0, 3] (S' := [(0, .int .i64 (if 1125899906842624 < (if 0 > a0 then 0 else a0) then 1125899906842624 else if 0 > a0 then 0 else a0)), (3, .slice none 0 0)]) (by kernel_rfl) ?_
  refine OpsT.done ?_
  refine Qn.then ?_
  refine CodT.seq ?_
  obtain ⟨r1, h1, h0⟩ := bindS h0
  refine CodT.meet1 (fun a w => ∃ (x1 : Int) (x2 : (List Int)) (A3 : Option Addr) (cp4 : Nat), (x1, x2) = r1 ∧ Fr 24 [(0, .int .i64 x1), (3, .slice A3 x2.length cp4)] a ∧ Inv w0 Z w (star (ownS 5 (cI .u8) 1 A3 cp4 x2) A)) ?_ ?_
  ·
    refine CodT.block ?_
    have hI := ownS_nil (α := Int) hI 5 (cI .u8) 1
    refine (fun a ha => wp_loopN (fun k a w => ∃ (x5 : Int) (x6 : (List Int)) (A7 : Option Addr) (cp8 : Nat), ref04_Num.l0 k x5 x6 = some r1 ∧ Fr 24 [(0, .int .i64 x5), (3, .slice A7 x6.length cp8)] a ∧ Inv w0 Z w (star (ownS 5 (cI .u8) 1 A7 cp8 x6) A)) ?_ FU a w ⟨if 1125899906842624 < (if 0 > a0 then 0 else a0) then 1125899906842624 else if 0 > a0 then 0 else a0, ([] : List Int), none, 0, h1, ha.keep [0, 3] (by kernel_rfl), hI⟩)
    clear h1 hI
    rintro k a w ⟨x5, x6, A7, cp8, h1, ha, hI⟩
    rcases k with _ | k
    · cases h1
    simp only [ref04_Num.l0] at h1
    refine CodT.of ?_ ha
    refine CodT.seq ?_
    refine CodT.seq ?_
    refine CodT.regionL [0, 1] (by kernel_rfl) ?_
    refine OpsT.pures (r := []) [0, 1] [0, 3, 8] (S' := [(0, .int .i64 x5), (3, .slice A7 x6.length cp8), (8, .bool (decide (x5 ≥ 128)))]) (by kernel_rfl) ?_
    refine OpsT.done ?_
    refine Qn.then ?_
    by_cases hb9 : (decide (x5 ≥ 128)) = true
    · rw [if_pos hb9] at h1
      refine CodT.yes' (b := decide (x5 ≥ 128)) (by kernel_rfl) hb9 ?_
      refine CodT.skip ?_
      refine Qn.then ?_
      refine CodT.block ?_
      refine CodT.seq ?_
      refine CodT.regionL [0, 1, 2, 3, 4, 5, 6, 7] (by kernel_rfl) ?_
      refine OpsT.pures (r := [5, 6, 7]) [0, 1, 2, 3, 4] [0, 9, 13] (S' := [(0, .int .i64 x5), (9, .slice A7 x6.length cp8), (13, .int .u8 (wu8 (wi64 ((x5.tmod 128) + 128))))]) (by kernel_rfl) ?_
      refine OpsT.cons (Does.buildSlice (en := (cI .u8)) (d := 14) (n := 1) (T := 41) (ps := [(0, .int .u8 (wu8 (wi64 ((x5.tmod 128) + 128))))]) ([wu8 (wi64 ((x5.tmod 128) + 128))] : List Int) (by kernel_rfl) Go.Proofs.Try.underlying41 ty5 (by kernel_rfl) (by kernel_rfl) (by kernel_rfl) (by kernel_rfl) (len_all (fun _ => rfl)) hI ?_)
      intro b10 w hI
      obtain ⟨hg11, h1⟩ := guardS h1
      have hI := hI.mono (pick2 _ _ _)
      refine OpsT.cons (Does.append (d := 15) (t := 41) (tx := 41) (ty := 41) (ys := x6) (zs := ([wu8 (wi64 ((x5.tmod 128) + 128))] : List Int)) (x := .slice (some ⟨b10, 0, none⟩) (([wu8 (wi64 ((x5.tmod 128) + 128))] : List Int).length) 1) (by kernel_rfl) Go.Proofs.Try.underlying41 ty5 (by kernel_rfl) hI (src_own Go.Proofs.Try.underlying41 (hI.mono (pick2 _ _ _)) (one_flat _ (fun _ => rfl))) (ownS_facts (hI.mono (pick2 _ _ _))).2.2 (by unfold LIM at hg11; omega) hg11 ?_)
      intro A12 cp13 w hI
      refine OpsT.pures (r := []) [7] [0, 3] (S' := [(0, .int .i64 x5), (3, .slice A12 ((x6 ++ ([wu8 (wi64 ((x5.tmod 128) + 128))] : List Int)).length) cp13)]) (by kernel_rfl) ?_
      refine OpsT.done ?_
      refine Qn.then ?_
      refine CodT.regionL [0, 1, 2] (by kernel_rfl) ?_
      refine OpsT.pures (r := []) [0, 1, 2] [0, 3] (S' := [(0, .int .i64 (wi64 (x5.tdiv 128))), (3, .slice A12 ((x6 ++ ([wu8 (wi64 ((x5.tmod 128) + 128))] : List Int)).length) cp13)]) (by kernel_rfl) ?_
      refine OpsT.done ?_
      refine Qn.block_normal ?_
      have hI := hI.mono (pick2 _ _ _)
      have hI := hI.drop
      exact Qn.thenJ fun a ha => ⟨k, Nat.lt_succ_self k, wi64 (x5.tdiv 128), x6 ++ ([wu8 (wi64 ((x5.tmod 128) + 128))] : List Int), A12, cp13, h1, ha.keep [0, 3] (by kernel_rfl), hI⟩
    · rw [if_neg hb9] at h1
      refine CodT.no' (b := decide (x5 ≥ 128)) (by kernel_rfl) (by simpa using hb9) ?_
      refine CodT.exit ?_
      refine Qn.exit_then ?_
      refine Qn.exit_then ?_
      refine Qn.block ?_
      have e := someS h1
      subst e
      exact Qn.thenJ fun a ha => ⟨x5, x6, A7, cp8, rfl, ha.keep [0, 3] (by kernel_rfl), hI⟩
  ·
    rintro a w ⟨x1, x2, A3, cp4, rfl, ha, hI⟩
    try dsimp only at h0
    refine Qn.of ?_ ha
    refine Qn.then ?_
    refine CodT.seq ?_
    refine CodT.regionL [0, 1, 2, 3, 4, 5, 6] (by kernel_rfl) ?_
    refine OpsT.pures (r := [3, 4, 5, 6]) [0, 1, 2] [18, 20] (S' := [(18, .slice A3 x2.length cp4), (20, .int .u8 (wu8 x1))]) (by kernel_rfl) ?_
    refine OpsT.cons (Does.buildSlice (en := (cI .u8)) (d := 21) (n := 1) (T := 41) (ps := [(0, .int .u8 (wu8 x1))]) ([wu8 x1] : List Int) (by kernel_rfl) Go.Proofs.Try.underlying41 ty5 (by kernel_rfl) (by kernel_rfl) (by kernel_rfl) (by kernel_rfl) (len_all (fun _ => rfl)) hI ?_)
    intro b14 w hI
    obtain ⟨hg15, h0⟩ := guardS h0
    have hI := hI.mono (pick2 _ _ _)
    refine OpsT.cons (Does.append (d := 22) (t := 41) (tx := 41) (ty := 41) (ys := x2) (zs := ([wu8 x1] : List Int)) (x := .slice (some ⟨b14, 0, none⟩) (([wu8 x1] : List Int).length) 1) (by kernel_rfl) Go.Proofs.Try.underlying41 ty5 (by kernel_rfl) hI (src_own Go.Proofs.Try.underlying41 (hI.mono (pick2 _ _ _)) (one_flat _ (fun _ => rfl))) (ownS_facts (hI.mono (pick2 _ _ _))).2.2 (by unfold LIM at hg15; omega) hg15 ?_)
    intro A16 cp17 w hI
    refine OpsT.cons (Does.b2sOwn (d := 23) (src := 41) (dst := 9) (xs := x2 ++ ([wu8 x1] : List Int)) (by kernel_rfl) Go.Proofs.Try.underlying41 Go.Proofs.Try.underlying5 Go.Proofs.Try.underlying9 hI ?_)
    refine OpsT.pures (r := []) [6] [2] (S' := [(2, .string (strOfNums (x2 ++ ([wu8 x1] : List Int))))]) (by kernel_rfl) ?_
    refine OpsT.done ?_
    refine Qn.then ?_
    refine CodT.ret ?_
    have hI := hI.drop
    have hI := hI.drop
    have e := someS h0
    subst e
    refine Qn.keep [2] (S' := [(2, .string (strOfNums (x2 ++ ([wu8 x1] : List Int))))]) (by kernel_rfl) ?_
    exact post_ret (v := .string (strOfNums (x2 ++ ([wu8 x1] : List Int)))) (fun a ha => RunRes.run (vs := [.string (strOfNums (x2 ++ ([wu8 x1] : List Int)))]) (.tmp (t := 2) (by kernel_rfl) .nil) ha (by kernel_rfl)) ⟨rfl, hI⟩
set_option maxRecDepth 100000 in
set_option maxHeartbeats 4000000 in
/-- cenotaph/cenotaphref04.GetNum -/
theorem c35 (w0 w : World) (Z : Hp) (A : HP) (hI : Inv w0 Z w A) (a0 : ByteArray) (r : (Int × ByteArray × Bool)) (h0 : ref04_GetNum a0 = some r) :
    Calls prog 35 #[.string a0] w (fun e w' => e = .returned (.tuple #[.int .i64 r.1, .string r.2.1, .bool r.2.2]) ∧ Inv w0 Z w' A) := by
  have e4 := calls_intro (R := (fun e w' => e = .returned (.tuple #[.int .i64 r.1, .string r.2.1, .bool r.2.2]) ∧ Inv w0 Z w' A)) (w := w) (args := [.string a0]) (fn := Go.Proofs.Try.f35) 49 Go.Proofs.Try.func35 (by rfl) Go.Proofs.Try.ntmps35 (by kernel_rfl)
  refine e4 ?_
  clear e4
  unfold ref04_GetNum at h0
  refine CodT.seq ?_
  refine CodT.regionL [0, 1, 2] (by kernel_rfl) ?_
  refine OpsT.pures (r := []) [0, 1, 2] [0] (S' := [(0, .string a0)]) (by kernel_rfl) ?_
  refine OpsT.done ?_
  refine Qn.then ?_
  refine CodT.seq ?_
  refine CodT.regionL [0] (by kernel_rfl) ?_
  refine OpsT.pures (r := []) [0] [0, 5] (S' := [(0, .string a0), (5, .int .i64 0)]) (by kernel_rfl) ?_
  refine OpsT.done ?_
  refine Qn.then ?_
  refine CodT.seq ?_
  refine CodT.regionL [0] (by kernel_rfl) ?_
  refine OpsT.pures (r := []) [0] [0, 5, 6] (S' := [(0, .string a0), (5, .int .i64 0), (6, .int .i64 1)]) (by kernel_rfl) ?_
  refine OpsT.done ?_
  refine Qn.then ?_
  refine CodT.seq ?_
  refine CodT.seq ?_
  refine CodT.regionL [0] (by kernel_rfl) ?_
  refine OpsT.pures (r := []) [0] [0, 5, 6, 7] (S' := [(0, .string a0), (5, .int .i64 0), (6, .int .i64 1), (7, .int .i64 0)]) (by kernel_rfl) ?_
  refine OpsT.done ?_
  refine Qn.then ?_
  obtain ⟨r1, h1, h0⟩ := bindS h0
  refine CodT.meet1 (fun a w => .inr () = r1 ∧ Fr 49 [] a ∧ Inv w0 Z w A) ?_ ?_
  ·
    refine CodT.block ?_
    refine (fun a ha => wp_loopN (fun k a w => ∃ (x1 : Int) (x2 : Int) (x3 : Int), ref04_GetNum.l0 a0 k x1 x2 x3 = some r1 ∧ Fr 49 [(0, .string a0), (5, .int .i64 x1), (6, .int .i64 x2), (7, .int .i64 x3)] a ∧ Inv w0 Z w A) ?_ FU a w ⟨0, 1, 0, h1, ha.keep [0, 5, 6, 7] (by kernel_rfl), hI⟩)
    clear h1 hI
    rintro k a w ⟨x1, x2, x3, h1, ha, hI⟩
    rcases k with _ | k
    · cases h1
    simp only [ref04_GetNum.l0] at h1
    refine CodT.of ?_ ha
    refine CodT.seq ?_
    obtain ⟨r2, h2, h1⟩ := bindS h1
    refine CodT.meet (fun a w => ∃ (x4 : Bool), x4 = r2 ∧ Fr 49 [(0, .string a0), (5, .int .i64 x1), (6, .int .i64 x2), (7, .int .i64 x3), (15, .bool x4)] a ∧ Inv w0 Z w A) ?_ ?_
    ·
      refine CodT.regionL [0, 1, 2, 3, 4, 5, 6, 7] (by kernel_rfl) ?_
      refine OpsT.pures (r := [5, 6, 7]) [0, 1, 2, 3, 4] [0, 5, 6, 7, 12] (S' := [(0, .string a0), (5, .int .i64 x1), (6, .int .i64 x2), (7, .int .i64 x3), (12, .bool (decide (x3 < (a0.size : Int))))]) (by kernel_rfl) ?_
      by_cases hb5 : (decide (x3 < (a0.size : Int))) = true
      · rw [if_pos hb5] at h2
        refine OpsT.keep [0, 5, 6, 7, 12] (S' := [(0, .string a0), (5, .int .i64 x1), (6, .int .i64 x2), (7, .int .i64 x3), (12, .bool true)]) (by (try simp only [hb5]); kernel_rfl) ?_
        refine OpsT.pures (r := []) [5, 6, 7] [0, 5, 6, 7, 15] (S' := [(0, .string a0), (5, .int .i64 x1), (6, .int .i64 x2), (7, .int .i64 x3), (15, .bool (decide (x3 < 8)))]) (by kernel_rfl) ?_
        refine OpsT.done ?_
        have e := someS h2
        subst e
        exact Qn.thenJ fun a ha => ⟨decide (x3 < 8), rfl, ha.keep [0, 5, 6, 7, 15] (by kernel_rfl), hI⟩
      · rw [if_neg hb5] at h2
        have hb5 : (decide (x3 < (a0.size : Int))) = false := by simpa using hb5
        refine OpsT.keep [0, 5, 6, 7, 12] (S' := [(0, .string a0), (5, .int .i64 x1), (6, .int .i64 x2), (7, .int .i64 x3), (12, .bool false)]) (by (try simp only [hb5]); kernel_rfl) ?_
        refine OpsT.pures (r := []) [5, 6, 7] [0, 5, 6, 7, 15] (S' := [(0, .string a0), (5, .int .i64 x1), (6, .int .i64 x2), (7, .int .i64 x3), (15, .bool false)]) (by kernel_rfl) ?_
        refine OpsT.done ?_
        have e := someS h2
        subst e
        exact Qn.thenJ fun a ha => ⟨false, rfl, ha.keep [0, 5, 6, 7, 15] (by kernel_rfl), hI⟩
    ·
      rintro a w ⟨x4, rfl, ha, hI⟩
      try dsimp only at h1
      refine CodT.of ?_ ha
      by_cases hb6 : x4 = true
      · rw [if_pos hb6] at h1
        refine CodT.yes' (b := x4) (by kernel_rfl) hb6 ?_
        refine CodT.skip ?_
        refine Qn.then ?_
        refine CodT.seq ?_
        refine CodT.block ?_
        refine CodT.seq ?_
        refine CodT.regionL [0, 1, 2, 3, 4, 5, 6, 7, 8, 9] (by kernel_rfl) ?_
        refine OpsT.pures (r := [3, 4, 5, 6, 7, 8, 9]) [0, 1, 2] [0, 6, 7, 18, 19, 20] (S' := [(0, .string a0), (6, .int .i64 x2), (7, .int .i64 x3), (18, .int .i64 x1), (19, .string a0), (20, .int .i64 x3)]) (by kernel_rfl) ?_
        obtain ⟨hg7, h1⟩ := guardS h1
        refine OpsT.cons (Does.yi (Yl.indexStr (d := 21) (T := 9) (k := .i64) (j := x3) (s := a0) (by kernel_rfl) Go.Proofs.Try.underlying9 hg7.1 hg7.2) hI ?_)
        refine OpsT.pures (r := []) [4, 5, 6, 7, 8, 9] [0, 5, 6, 7] (S' := [(0, .string a0), (5, .int .i64 (wi64 (x1 + (wi64 (((wi64 (bt a0 x3)).tmod 128) * x2))))), (6, .int .i64 x2), (7, .int .i64 x3)]) (by kernel_rfl) ?_
        refine OpsT.done ?_
        refine Qn.then ?_
        refine CodT.seq ?_
        refine CodT.regionL [0, 1, 2] (by kernel_rfl) ?_
        refine OpsT.pures (r := []) [0, 1, 2] [0, 5, 6, 7] (S' := [(0, .string a0), (5, .int .i64 (wi64 (x1 + (wi64 (((wi64 (bt a0 x3)).tmod 128) * x2))))), (6, .int .i64 (wi64 (x2 * 128))), (7, .int .i64 x3)]) (by kernel_rfl) ?_
        refine OpsT.done ?_
        refine Qn.then ?_
        refine CodT.seq ?_
        refine CodT.regionL [0, 1, 2, 3] (by kernel_rfl) ?_
        refine OpsT.pures (r := [2, 3]) [0, 1] [0, 5, 6, 7, 29, 30] (S' := [(0, .string a0), (5, .int .i64 (wi64 (x1 + (wi64 (((wi64 (bt a0 x3)).tmod 128) * x2))))), (6, .int .i64 (wi64 (x2 * 128))), (7, .int .i64 x3), (29, .string a0), (30, .int .i64 x3)]) (by kernel_rfl) ?_
        obtain ⟨hg8, h1⟩ := guardS h1
        refine OpsT.cons (Does.yi (Yl.indexStr (d := 31) (T := 9) (k := .i64) (j := x3) (s := a0) (by kernel_rfl) Go.Proofs.Try.underlying9 hg8.1 hg8.2) hI ?_)
        refine OpsT.pures (r := []) [3] [0, 5, 6, 7, 32] (S' := [(0, .string a0), (5, .int .i64 (wi64 (x1 + (wi64 (((wi64 (bt a0 x3)).tmod 128) * x2))))), (6, .int .i64 (wi64 (x2 * 128))), (7, .int .i64 x3), (32, .bool (decide ((bt a0 x3) < 128)))]) (by kernel_rfl) ?_
        refine OpsT.done ?_
        refine Qn.then ?_
        by_cases hb9 : (decide ((bt a0 x3) < 128)) = true
        · rw [if_pos hb9] at h1
          refine CodT.yes' (b := decide ((bt a0 x3) < 128)) (by kernel_rfl) hb9 ?_
          refine CodT.seq ?_
          obtain ⟨r2, h2, h1⟩ := bindS h1
          refine CodT.meet (fun a w => ∃ (x10 : Bool), x10 = r2 ∧ Fr 49 [(0, .string a0), (5, .int .i64 (wi64 (x1 + (wi64 (((wi64 (bt a0 x3)).tmod 128) * x2))))), (7, .int .i64 x3), (43, .bool x10)] a ∧ Inv w0 Z w A) ?_ ?_
          ·
            refine CodT.drawI (n := 11) [] (by kernel_rfl) (by kernel_rfl) hI ?_
            intro w hI
            refine GmT.p' 0 33 (.int .i64 (wi64 (x1 + (wi64 (((wi64 (bt a0 x3)).tmod 128) * x2))))) (by kernel_rfl) (by kernel_rfl) ?_
            refine GmT.p' 1 34 (.bool (decide ((wi64 (x1 + (wi64 (((wi64 (bt a0 x3)).tmod 128) * x2)))) > 1125899906842624))) (by kernel_rfl) (by kernel_rfl) ?_
            refine GmT.p' 2 35 (.bool (decide ((wi64 (x1 + (wi64 (((wi64 (bt a0 x3)).tmod 128) * x2)))) > 1125899906842624))) (by kernel_rfl) (by kernel_rfl) ?_
            by_cases hb11 : (decide ((wi64 (x1 + (wi64 (((wi64 (bt a0 x3)).tmod 128) * x2)))) > 1125899906842624)) = true
            · rw [if_pos hb11] at h2
              refine GmT.keep [0, 5, 7, 35] (S' := [(0, .string a0), (5, .int .i64 (wi64 (x1 + (wi64 (((wi64 (bt a0 x3)).tmod 128) * x2))))), (7, .int .i64 x3), (35, .bool true)]) (by (try simp only [hb11]); kernel_rfl) ?_
              refine GmT.p' 3 36 (undef) (by kernel_rfl) (by kernel_rfl) ?_
              refine GmT.p' 4 37 (undef) (by kernel_rfl) (by kernel_rfl) ?_
              refine GmT.p' 5 38 (undef) (by kernel_rfl) (by kernel_rfl) ?_
              refine GmT.p' 6 39 (undef) (by kernel_rfl) (by kernel_rfl) ?_
              refine GmT.p' 7 40 (undef) (by kernel_rfl) (by kernel_rfl) ?_
              refine GmT.p' 8 41 (undef) (by kernel_rfl) (by kernel_rfl) ?_
              refine GmT.p' 9 42 (undef) (by kernel_rfl) (by kernel_rfl) ?_
              refine GmT.p' 10 43 (.bool true) (by kernel_rfl) (by kernel_rfl) ?_
              refine GmT.done (by kernel_rfl) ?_
              have e := someS h2
              subst e
              exact Qn.thenJ fun a ha => ⟨true, rfl, ha.keep [0, 5, 7, 43] (by kernel_rfl), hI⟩
            · rw [if_neg hb11] at h2
              have hb11 : (decide ((wi64 (x1 + (wi64 (((wi64 (bt a0 x3)).tmod 128) * x2)))) > 1125899906842624)) = false := by simpa using hb11
              refine GmT.keep [0, 5, 7, 35] (S' := [(0, .string a0), (5, .int .i64 (wi64 (x1 + (wi64 (((wi64 (bt a0 x3)).tmod 128) * x2))))), (7, .int .i64 x3), (35, .bool false)]) (by (try simp only [hb11]); kernel_rfl) ?_
              refine GmT.p' 3 36 (.int .i64 (wi64 (x1 + (wi64 (((wi64 (bt a0 x3)).tmod 128) * x2))))) (by kernel_rfl) (by kernel_rfl) ?_
              refine GmT.p' 5 38 (.string a0) (by kernel_rfl) (by kernel_rfl) ?_
              refine GmT.p' 6 39 (.int .i64 x3) (by kernel_rfl) (by kernel_rfl) ?_
              refine GmT.p' 7 40 (.int .i64 (wi64 (x3 + 1))) (by kernel_rfl) (by kernel_rfl) ?_
              obtain ⟨hg12, h2⟩ := guardS h2
              refine GmT.r (i := 8) 2 (by kernel_rfl) (by kernel_rfl) (Yl.sliceStr01 (d := 41) (T := 9) (s := a0) (hi := wi64 (x3 + 1)) (by kernel_rfl) Go.Proofs.Try.underlying9 hg12) hI ?_
              obtain ⟨y14, hc13, h2⟩ := bindS h2
              try dsimp only at h2
              refine GmT.o (i := 4) (by kernel_rfl) (Does.call (d := some 37) (n := 22) (vs := [.int .i64 (wi64 (x1 + (wi64 (((wi64 (bt a0 x3)).tmod 128) * x2))))]) (by kernel_rfl) en22 (c22 w0 w _ _ hI (wi64 (x1 + (wi64 (((wi64 (bt a0 x3)).tmod 128) * x2)))) _ hc13) ?_)
              rintro e w ⟨rfl, hI⟩
              refine ⟨_, rfl, ?_⟩
              refine ⟨fun _ _ => hI, ?_⟩
              refine GmT.p' 9 42 (.bool (!(seq y14 (sx a0 0 (wi64 (x3 + 1)))))) (by kernel_rfl) (by kernel_rfl) ?_
              refine GmT.p' 10 43 (.bool (!(seq y14 (sx a0 0 (wi64 (x3 + 1)))))) (by kernel_rfl) (by kernel_rfl) ?_
              refine GmT.done (by kernel_rfl) ?_
              have e := someS h2
              subst e
              exact Qn.thenJ fun a ha => ⟨!(seq y14 (sx a0 0 (wi64 (x3 + 1)))), rfl, ha.keep [0, 5, 7, 43] (by kernel_rfl), hI⟩
          ·
            rintro a w ⟨x10, rfl, ha, hI⟩
            try dsimp only at h1
            refine CodT.of ?_ ha
            by_cases hb15 : x10 = true
            · rw [if_pos hb15] at h1
              refine CodT.yes' (b := x10) (by kernel_rfl) hb15 ?_
              refine CodT.seq ?_
              refine CodT.regionL [0, 1, 2] (by kernel_rfl) ?_
              refine OpsT.pures (r := []) [0, 1, 2] [2, 3, 4] (S' := [(2, .int .i64 0), (3, .string (⟨#[]⟩ : ByteArray)), (4, .bool false)]) (by kernel_rfl) ?_
              refine OpsT.done ?_
              refine Qn.then ?_
              refine CodT.ret ?_
              refine Qn.ret_then ?_
              refine Qn.block_ret ?_
              refine Qn.ret_then ?_
              refine Qn.ret_then ?_
              refine Qn.block_ret ?_
              refine Qn.ret_then ?_
              refine Qn.ret_then ?_
              have e := someS h1
              subst e
              try dsimp only at h0
              have e := someS h0
              subst e
              refine Qn.keep [2, 3, 4] (S' := [(2, .int .i64 0), (3, .string (⟨#[]⟩ : ByteArray)), (4, .bool false)]) (by kernel_rfl) ?_
              exact post_ret (v := .tuple #[.int .i64 0, .string (⟨#[]⟩ : ByteArray), .bool false]) (fun a ha => RunRes.run (vs := [.int .i64 0, .string (⟨#[]⟩ : ByteArray), .bool false]) (.tmp (t := 2) (by kernel_rfl) (.tmp (t := 3) (by kernel_rfl) (.tmp (t := 4) (by kernel_rfl) .nil))) ha (by kernel_rfl)) ⟨rfl, hI⟩
            · rw [if_neg hb15] at h1
              refine CodT.no' (b := x10) (by kernel_rfl) (by simpa using hb15) ?_
              refine CodT.skip ?_
              refine Qn.then ?_
              refine CodT.seq ?_
              refine CodT.drawI (n := 8) [] (by kernel_rfl) (by kernel_rfl) hI ?_
              intro w hI
              refine GmT.p' 0 44 (.int .i64 (wi64 (x1 + (wi64 (((wi64 (bt a0 x3)).tmod 128) * x2))))) (by kernel_rfl) (by kernel_rfl) ?_
              refine GmT.p' 1 45 (.string a0) (by kernel_rfl) (by kernel_rfl) ?_
              refine GmT.p' 2 46 (.int .i64 x3) (by kernel_rfl) (by kernel_rfl) ?_
              refine GmT.p' 3 47 (.int .i64 (wi64 (x3 + 1))) (by kernel_rfl) (by kernel_rfl) ?_
              refine GmT.p' 5 2 (.int .i64 (wi64 (x1 + (wi64 (((wi64 (bt a0 x3)).tmod 128) * x2))))) (by kernel_rfl) (by kernel_rfl) ?_
              obtain ⟨hg16, h1⟩ := guardS h1
              refine GmT.r (i := 4) 2 (by kernel_rfl) (by kernel_rfl) (Yl.sliceStr10 (d := 48) (T := 9) (s := a0) (lo := wi64 (x3 + 1)) (by kernel_rfl) Go.Proofs.Try.underlying9 hg16) hI ?_
              refine GmT.p' 6 3 (.string (sx a0 (wi64 (x3 + 1)) (a0.size : Int))) (by kernel_rfl) (by kernel_rfl) ?_
              refine GmT.p' 7 4 (.bool true) (by kernel_rfl) (by kernel_rfl) ?_
              refine GmT.done (by kernel_rfl) ?_
              refine Qn.then ?_
              refine CodT.ret ?_
              refine Qn.block_ret ?_
              refine Qn.ret_then ?_
              refine Qn.ret_then ?_
              refine Qn.block_ret ?_
              refine Qn.ret_then ?_
              refine Qn.ret_then ?_
              have e := someS h1
              subst e
              try dsimp only at h0
              have e := someS h0
              subst e
              refine Qn.keep [2, 3, 4] (S' := [(2, .int .i64 (wi64 (x1 + (wi64 (((wi64 (bt a0 x3)).tmod 128) * x2))))), (3, .string (sx a0 (wi64 (x3 + 1)) (a0.size : Int))), (4, .bool true)]) (by kernel_rfl) ?_
              exact post_ret (v := .tuple #[.int .i64 (wi64 (x1 + (wi64 (((wi64 (bt a0 x3)).tmod 128) * x2)))), .string (sx a0 (wi64 (x3 + 1)) (a0.size : Int)), .bool true]) (fun a ha => RunRes.run (vs := [.int .i64 (wi64 (x1 + (wi64 (((wi64 (bt a0 x3)).tmod 128) * x2)))), .string (sx a0 (wi64 (x3 + 1)) (a0.size : Int)), .bool true]) (.tmp (t := 2) (by kernel_rfl) (.tmp (t := 3) (by kernel_rfl) (.tmp (t := 4) (by kernel_rfl) .nil))) ha (by kernel_rfl)) ⟨rfl, hI⟩
        · rw [if_neg hb9] at h1
          refine CodT.no' (b := decide ((bt a0 x3) < 128)) (by kernel_rfl) (by simpa using hb9) ?_
          refine CodT.skip ?_
          refine Qn.block_normal ?_
          refine Qn.then ?_
          refine CodT.regionL [0, 1, 2] (by kernel_rfl) ?_
          refine OpsT.pures (r := []) [0, 1, 2] [0, 5, 6, 7] (S' := [(0, .string a0), (5, .int .i64 (wi64 (x1 + (wi64 (((wi64 (bt a0 x3)).tmod 128) * x2))))), (6, .int .i64 (wi64 (x2 * 128))), (7, .int .i64 (wi64 (x3 + 1)))]) (by kernel_rfl) ?_
          refine OpsT.done ?_
          exact Qn.thenJ fun a ha => ⟨k, Nat.lt_succ_self k, wi64 (x1 + (wi64 (((wi64 (bt a0 x3)).tmod 128) * x2))), wi64 (x2 * 128), wi64 (x3 + 1), h1, ha.keep [0, 5, 6, 7] (by kernel_rfl), hI⟩
      · rw [if_neg hb6] at h1
        refine CodT.no' (b := x4) (by kernel_rfl) (by simpa using hb6) ?_
        refine CodT.exit ?_
        refine Qn.exit_then ?_
        refine Qn.exit_then ?_
        refine Qn.block ?_
        have e := someS h1
        subst e
        exact Qn.thenJ fun a ha => ⟨rfl, ha.keep [] (by kernel_rfl), hI⟩
  ·
    rintro a w ⟨rfl, ha, hI⟩
    try dsimp only at h0
    refine Qn.of ?_ ha
    refine Qn.then ?_
    refine CodT.seq ?_
    refine CodT.regionL [0, 1, 2] (by kernel_rfl) ?_
    refine OpsT.pures (r := []) [0, 1, 2] [2, 3, 4] (S' := [(2, .int .i64 0), (3, .string (⟨#[]⟩ : ByteArray)), (4, .bool false)]) (by kernel_rfl) ?_
    refine OpsT.done ?_
    refine Qn.then ?_
    refine CodT.ret ?_
    have e := someS h0
    subst e
    refine Qn.keep [2, 3, 4] (S' := [(2, .int .i64 0), (3, .string (⟨#[]⟩ : ByteArray)), (4, .bool false)]) (by kernel_rfl) ?_
    exact post_ret (v := .tuple #[.int .i64 0, .string (⟨#[]⟩ : ByteArray), .bool false]) (fun a ha => RunRes.run (vs := [.int .i64 0, .string (⟨#[]⟩ : ByteArray), .bool false]) (.tmp (t := 2) (by kernel_rfl) (.tmp (t := 3) (by kernel_rfl) (.tmp (t := 4) (by kernel_rfl) .nil))) ha (by kernel_rfl)) ⟨rfl, hI⟩
set_option maxRecDepth 100000 in
set_option maxHeartbeats 4000000 in
/-- cenotaph/cenotaphref05.tells -/
theorem c21 (w0 w : World) (Z : Hp) (A : HP) (hI : Inv w0 Z w A) (a0 : Int) (r : (List Bool)) (h0 : ref05_tells a0 = some r) :
    Calls prog 21 #[.int .i64 a0] w (fun e w' => e = .returned (.agg (cA Value.bool r).toArray) ∧ r.length = 5 ∧ Inv w0 Z w' A) := by
  have e4 := calls_intro (R := (fun e w' => e = .returned (.agg (cA Value.bool r).toArray) ∧ r.length = 5 ∧ Inv w0 Z w' A)) (w := w) (args := [.int .i64 a0]) (fn := Go.Proofs.Try.f21) 25 Go.Proofs.Try.func21 (by rfl) Go.Proofs.Try.ntmps21 (by kernel_rfl)
  refine e4 ?_
  clear e4
  unfold ref05_tells at h0
  refine CodT.seq ?_
  refine CodT.regionL [0] (by kernel_rfl) ?_
  refine OpsT.cons (Does.allocL (d := 2) (T := 48) (cA Value.bool (List.replicate 5 (false : Bool))) (by kernel_rfl) ty48 hI (by kernel_rfl) ?_)
  intro b1 w hI
  refine OpsT.done ?_
  refine Qn.then ?_
  refine CodT.seq ?_
  refine CodT.seq ?_
  refine CodT.regionL [0] (by kernel_rfl) ?_
  refine OpsT.pures (r := []) [0] [2, 3] (S' := [(2, .pointer (some ⟨b1, 0, none⟩)), (3, .int .i64 a0)]) (by kernel_rfl) ?_
  refine OpsT.done ?_
  refine Qn.then ?_
  refine CodT.block ?_
  obtain ⟨r1, h1, h0⟩ := bindS h0
  refine CodT.meet (fun a w => ∃ (x2 : Bool), x2 = r1 ∧ Fr 25 [(2, .pointer (some ⟨b1, 0, none⟩)), (3, .int .i64 a0), (4, .bool x2)] a ∧ Inv w0 Z w (star (pt b1 (.cells (cA Value.bool (List.replicate 5 (false : Bool))).toArray 48 (0, 0))) A)) ?_ ?_
  ·
    refine CodT.seq ?_
    refine CodT.regionL [0, 1] (by kernel_rfl) ?_
    refine OpsT.pures (r := []) [0, 1] [2, 3, 4] (S' := [(2, .pointer (some ⟨b1, 0, none⟩)), (3, .int .i64 a0), (4, .bool (a0 == 0))]) (by kernel_rfl) ?_
    refine OpsT.done ?_
    refine Qn.then ?_
    by_cases hb3 : (a0 == 0) = true
    · rw [if_pos hb3] at h1
      refine CodT.yes' (b := a0 == 0) (by kernel_rfl) hb3 ?_
      refine CodT.skip ?_
      have e := someS h1
      subst e
      exact Qn.thenJ fun a ha => ⟨a0 == 0, rfl, ha.keep [2, 3, 4] (by kernel_rfl), hI⟩
    · rw [if_neg hb3] at h1
      refine CodT.no' (b := a0 == 0) (by kernel_rfl) (by simpa using hb3) ?_
      refine CodT.seq ?_
      refine CodT.regionL [0, 1] (by kernel_rfl) ?_
      refine OpsT.pures (r := []) [0, 1] [2, 3, 4] (S' := [(2, .pointer (some ⟨b1, 0, none⟩)), (3, .int .i64 a0), (4, .bool (a0 == 4))]) (by kernel_rfl) ?_
      refine OpsT.done ?_
      refine Qn.then ?_
      by_cases hb4 : (a0 == 4) = true
      · rw [if_pos hb4] at h1
        refine CodT.yes' (b := a0 == 4) (by kernel_rfl) hb4 ?_
        refine CodT.skip ?_
        have e := someS h1
        subst e
        exact Qn.thenJ fun a ha => ⟨a0 == 4, rfl, ha.keep [2, 3, 4] (by kernel_rfl), hI⟩
      · rw [if_neg hb4] at h1
        refine CodT.no' (b := a0 == 4) (by kernel_rfl) (by simpa using hb4) ?_
        refine CodT.regionL [0, 1] (by kernel_rfl) ?_
        refine OpsT.pures (r := []) [0, 1] [2, 3, 4] (S' := [(2, .pointer (some ⟨b1, 0, none⟩)), (3, .int .i64 a0), (4, .bool (a0 == 5))]) (by kernel_rfl) ?_
        refine OpsT.done ?_
        have e := someS h1
        subst e
        exact Qn.thenJ fun a ha => ⟨a0 == 5, rfl, ha.keep [2, 3, 4] (by kernel_rfl), hI⟩
  ·
    rintro a w ⟨x2, rfl, ha, hI⟩
    try dsimp only at h0
    refine CodT.of ?_ ha
    by_cases hb5 : x2 = true
    · rw [if_pos hb5] at h0
      refine CodT.yes' (b := x2) (by kernel_rfl) hb5 ?_
      refine CodT.seq ?_
      refine CodT.regionL [0, 1] (by kernel_rfl) ?_
      refine OpsT.pures (r := [1]) [0] [2, 8] (S' := [(2, .pointer (some ⟨b1, 0, none⟩)), (8, .agg (cA Value.bool ([true, true, false, false, false] : List Bool)).toArray)]) (by kernel_rfl) ?_
      refine OpsT.cons (Does.storeAll (T := 48) (b := b1) (n := 5) (xs := (List.replicate 5 (false : Bool))) (ys := ([true, true, false, false, false] : List Bool)) (by kernel_rfl) ty48 hI (fun _ => rfl) (by kernel_rfl) (by kernel_rfl) ?_)
      intro w hI
      refine OpsT.done ?_
      refine Qn.then ?_
      refine CodT.ret ?_
      refine Qn.block_ret ?_
      refine Qn.ret_then ?_
      have hL6 := (ldBN ty48 (l := cA Value.bool ([true, true, false, false, false] : List Bool)) (o := 0) (cs := cA Value.bool ([true, true, false, false, false] : List Bool)) (ent_refl _) ((cA_length _ _).trans (by kernel_rfl)) (whole _ _ ((cA_length _ _).trans (by kernel_rfl)))) w hI
      have hI := hI.drop
      have e := someS h0
      subst e
      refine Qn.keep [2] (S' := [(2, .pointer (some ⟨b1, 0, none⟩))]) (by kernel_rfl) ?_
      exact post_ret (v := .agg (cA Value.bool ([true, true, false, false, false] : List Bool)).toArray) (fun a ha => RunRes.run (vs := [.agg (cA Value.bool ([true, true, false, false, false] : List Bool)).toArray]) (.cell (t := 2) (T := 48) (ad := ⟨b1, 0, none⟩) (by kernel_rfl) hL6 .nil) ha (by kernel_rfl)) ⟨rfl, (by kernel_rfl), hI⟩
    · rw [if_neg hb5] at h0
      refine CodT.no' (b := x2) (by kernel_rfl) (by simpa using hb5) ?_
      refine CodT.seq ?_
      refine CodT.regionL [0, 1] (by kernel_rfl) ?_
      refine OpsT.pures (r := []) [0, 1] [2, 3, 9] (S' := [(2, .pointer (some ⟨b1, 0, none⟩)), (3, .int .i64 a0), (9, .bool (a0 == 1))]) (by kernel_rfl) ?_
      refine OpsT.done ?_
      refine Qn.then ?_
      by_cases hb7 : (a0 == 1) = true
      · rw [if_pos hb7] at h0
        refine CodT.yes' (b := a0 == 1) (by kernel_rfl) hb7 ?_
        refine CodT.seq ?_
        refine CodT.regionL [0, 1] (by kernel_rfl) ?_
        refine OpsT.pures (r := [1]) [0] [2, 11] (S' := [(2, .pointer (some ⟨b1, 0, none⟩)), (11, .agg (cA Value.bool ([true, false, false, true, false] : List Bool)).toArray)]) (by kernel_rfl) ?_
        refine OpsT.cons (Does.storeAll (T := 48) (b := b1) (n := 5) (xs := (List.replicate 5 (false : Bool))) (ys := ([true, false, false, true, false] : List Bool)) (by kernel_rfl) ty48 hI (fun _ => rfl) (by kernel_rfl) (by kernel_rfl) ?_)
        intro w hI
        refine OpsT.done ?_
        refine Qn.then ?_
        refine CodT.ret ?_
        refine Qn.block_ret ?_
        refine Qn.ret_then ?_
        have hL8 := (ldBN ty48 (l := cA Value.bool ([true, false, false, true, false] : List Bool)) (o := 0) (cs := cA Value.bool ([true, false, false, true, false] : List Bool)) (ent_refl _) ((cA_length _ _).trans (by kernel_rfl)) (whole _ _ ((cA_length _ _).trans (by kernel_rfl)))) w hI
        have hI := hI.drop
        have e := someS h0
        subst e
        refine Qn.keep [2] (S' := [(2, .pointer (some ⟨b1, 0, none⟩))]) (by kernel_rfl) ?_
        exact post_ret (v := .agg (cA Value.bool ([true, false, false, true, false] : List Bool)).toArray) (fun a ha => RunRes.run (vs := [.agg (cA Value.bool ([true, false, false, true, false] : List Bool)).toArray]) (.cell (t := 2) (T := 48) (ad := ⟨b1, 0, none⟩) (by kernel_rfl) hL8 .nil) ha (by kernel_rfl)) ⟨rfl, (by kernel_rfl), hI⟩
      · rw [if_neg hb7] at h0
        refine CodT.no' (b := a0 == 1) (by kernel_rfl) (by simpa using hb7) ?_
        refine CodT.seq ?_
        refine CodT.regionL [0, 1] (by kernel_rfl) ?_
        refine OpsT.pures (r := []) [0, 1] [2, 3, 12] (S' := [(2, .pointer (some ⟨b1, 0, none⟩)), (3, .int .i64 a0), (12, .bool (a0 == 2))]) (by kernel_rfl) ?_
        refine OpsT.done ?_
        refine Qn.then ?_
        by_cases hb9 : (a0 == 2) = true
        · rw [if_pos hb9] at h0
          refine CodT.yes' (b := a0 == 2) (by kernel_rfl) hb9 ?_
          refine CodT.seq ?_
          refine CodT.regionL [0, 1] (by kernel_rfl) ?_
          refine OpsT.pures (r := [1]) [0] [2, 14] (S' := [(2, .pointer (some ⟨b1, 0, none⟩)), (14, .agg (cA Value.bool ([true, false, true, true, true] : List Bool)).toArray)]) (by kernel_rfl) ?_
          refine OpsT.cons (Does.storeAll (T := 48) (b := b1) (n := 5) (xs := (List.replicate 5 (false : Bool))) (ys := ([true, false, true, true, true] : List Bool)) (by kernel_rfl) ty48 hI (fun _ => rfl) (by kernel_rfl) (by kernel_rfl) ?_)
          intro w hI
          refine OpsT.done ?_
          refine Qn.then ?_
          refine CodT.ret ?_
          refine Qn.block_ret ?_
          refine Qn.ret_then ?_
          have hL10 := (ldBN ty48 (l := cA Value.bool ([true, false, true, true, true] : List Bool)) (o := 0) (cs := cA Value.bool ([true, false, true, true, true] : List Bool)) (ent_refl _) ((cA_length _ _).trans (by kernel_rfl)) (whole _ _ ((cA_length _ _).trans (by kernel_rfl)))) w hI
          have hI := hI.drop
          have e := someS h0
          subst e
          refine Qn.keep [2] (S' := [(2, .pointer (some ⟨b1, 0, none⟩))]) (by kernel_rfl) ?_
          exact post_ret (v := .agg (cA Value.bool ([true, false, true, true, true] : List Bool)).toArray) (fun a ha => RunRes.run (vs := [.agg (cA Value.bool ([true, false, true, true, true] : List Bool)).toArray]) (.cell (t := 2) (T := 48) (ad := ⟨b1, 0, none⟩) (by kernel_rfl) hL10 .nil) ha (by kernel_rfl)) ⟨rfl, (by kernel_rfl), hI⟩
        · rw [if_neg hb9] at h0
          refine CodT.no' (b := a0 == 2) (by kernel_rfl) (by simpa using hb9) ?_
          refine CodT.seq ?_
          refine CodT.regionL [0, 1] (by kernel_rfl) ?_
          refine OpsT.pures (r := []) [0, 1] [2, 3, 15] (S' := [(2, .pointer (some ⟨b1, 0, none⟩)), (3, .int .i64 a0), (15, .bool (a0 == 3))]) (by kernel_rfl) ?_
          refine OpsT.done ?_
          refine Qn.then ?_
          by_cases hb11 : (a0 == 3) = true
          · rw [if_pos hb11] at h0
            refine CodT.yes' (b := a0 == 3) (by kernel_rfl) hb11 ?_
            refine CodT.seq ?_
            refine CodT.regionL [0, 1] (by kernel_rfl) ?_
            refine OpsT.pures (r := [1]) [0] [2, 17] (S' := [(2, .pointer (some ⟨b1, 0, none⟩)), (17, .agg (cA Value.bool ([true, false, true, false, false] : List Bool)).toArray)]) (by kernel_rfl) ?_
            refine OpsT.cons (Does.storeAll (T := 48) (b := b1) (n := 5) (xs := (List.replicate 5 (false : Bool))) (ys := ([true, false, true, false, false] : List Bool)) (by kernel_rfl) ty48 hI (fun _ => rfl) (by kernel_rfl) (by kernel_rfl) ?_)
            intro w hI
            refine OpsT.done ?_
            refine Qn.then ?_
            refine CodT.ret ?_
            refine Qn.block_ret ?_
            refine Qn.ret_then ?_
            have hL12 := (ldBN ty48 (l := cA Value.bool ([true, false, true, false, false] : List Bool)) (o := 0) (cs := cA Value.bool ([true, false, true, false, false] : List Bool)) (ent_refl _) ((cA_length _ _).trans (by kernel_rfl)) (whole _ _ ((cA_length _ _).trans (by kernel_rfl)))) w hI
            have hI := hI.drop
            have e := someS h0
            subst e
            refine Qn.keep [2] (S' := [(2, .pointer (some ⟨b1, 0, none⟩))]) (by kernel_rfl) ?_
            exact post_ret (v := .agg (cA Value.bool ([true, false, true, false, false] : List Bool)).toArray) (fun a ha => RunRes.run (vs := [.agg (cA Value.bool ([true, false, true, false, false] : List Bool)).toArray]) (.cell (t := 2) (T := 48) (ad := ⟨b1, 0, none⟩) (by kernel_rfl) hL12 .nil) ha (by kernel_rfl)) ⟨rfl, (by kernel_rfl), hI⟩
          · rw [if_neg hb11] at h0
            refine CodT.no' (b := a0 == 3) (by kernel_rfl) (by simpa using hb11) ?_
            refine CodT.seq ?_
            refine CodT.regionL [0, 1] (by kernel_rfl) ?_
            refine OpsT.pures (r := []) [0, 1] [2, 3, 18] (S' := [(2, .pointer (some ⟨b1, 0, none⟩)), (3, .int .i64 a0), (18, .bool (a0 == 6))]) (by kernel_rfl) ?_
            refine OpsT.done ?_
            refine Qn.then ?_
            by_cases hb13 : (a0 == 6) = true
            · rw [if_pos hb13] at h0
              refine CodT.yes' (b := a0 == 6) (by kernel_rfl) hb13 ?_
              refine CodT.seq ?_
              refine CodT.regionL [0, 1] (by kernel_rfl) ?_
              refine OpsT.pures (r := [1]) [0] [2, 20] (S' := [(2, .pointer (some ⟨b1, 0, none⟩)), (20, .agg (cA Value.bool ([true, false, false, false, false] : List Bool)).toArray)]) (by kernel_rfl) ?_
              refine OpsT.cons (Does.storeAll (T := 48) (b := b1) (n := 5) (xs := (List.replicate 5 (false : Bool))) (ys := ([true, false, false, false, false] : List Bool)) (by kernel_rfl) ty48 hI (fun _ => rfl) (by kernel_rfl) (by kernel_rfl) ?_)
              intro w hI
              refine OpsT.done ?_
              refine Qn.then ?_
              refine CodT.ret ?_
              refine Qn.block_ret ?_
              refine Qn.ret_then ?_
              have hL14 := (ldBN ty48 (l := cA Value.bool ([true, false, false, false, false] : List Bool)) (o := 0) (cs := cA Value.bool ([true, false, false, false, false] : List Bool)) (ent_refl _) ((cA_length _ _).trans (by kernel_rfl)) (whole _ _ ((cA_length _ _).trans (by kernel_rfl)))) w hI
              have hI := hI.drop
              have e := someS h0
              subst e
              refine Qn.keep [2] (S' := [(2, .pointer (some ⟨b1, 0, none⟩))]) (by kernel_rfl) ?_
              exact post_ret (v := .agg (cA Value.bool ([true, false, false, false, false] : List Bool)).toArray) (fun a ha => RunRes.run (vs := [.agg (cA Value.bool ([true, false, false, false, false] : List Bool)).toArray]) (.cell (t := 2) (T := 48) (ad := ⟨b1, 0, none⟩) (by kernel_rfl) hL14 .nil) ha (by kernel_rfl)) ⟨rfl, (by kernel_rfl), hI⟩
            · rw [if_neg hb13] at h0
              refine CodT.no' (b := a0 == 6) (by kernel_rfl) (by simpa using hb13) ?_
              refine CodT.seq ?_
              refine CodT.regionL [0, 1] (by kernel_rfl) ?_
              refine OpsT.pures (r := []) [0, 1] [2, 21] (S' := [(2, .pointer (some ⟨b1, 0, none⟩)), (21, .bool (a0 == 7))]) (by kernel_rfl) ?_
              refine OpsT.done ?_
              refine Qn.then ?_
              by_cases hb15 : (a0 == 7) = true
              · rw [if_pos hb15] at h0
                refine CodT.yes' (b := a0 == 7) (by kernel_rfl) hb15 ?_
                refine CodT.seq ?_
                refine CodT.regionL [0, 1] (by kernel_rfl) ?_
                refine OpsT.pures (r := [1]) [0] [2, 23] (S' := [(2, .pointer (some ⟨b1, 0, none⟩)), (23, .agg (cA Value.bool ([false, false, true, false, false] : List Bool)).toArray)]) (by kernel_rfl) ?_
                refine OpsT.cons (Does.storeAll (T := 48) (b := b1) (n := 5) (xs := (List.replicate 5 (false : Bool))) (ys := ([false, false, true, false, false] : List Bool)) (by kernel_rfl) ty48 hI (fun _ => rfl) (by kernel_rfl) (by kernel_rfl) ?_)
                intro w hI
                refine OpsT.done ?_
                refine Qn.then ?_
                refine CodT.ret ?_
                refine Qn.block_ret ?_
                refine Qn.ret_then ?_
                have hL16 := (ldBN ty48 (l := cA Value.bool ([false, false, true, false, false] : List Bool)) (o := 0) (cs := cA Value.bool ([false, false, true, false, false] : List Bool)) (ent_refl _) ((cA_length _ _).trans (by kernel_rfl)) (whole _ _ ((cA_length _ _).trans (by kernel_rfl)))) w hI
                have hI := hI.drop
                have e := someS h0
                subst e
                refine Qn.keep [2] (S' := [(2, .pointer (some ⟨b1, 0, none⟩))]) (by kernel_rfl) ?_
                exact post_ret (v := .agg (cA Value.bool ([false, false, true, false, false] : List Bool)).toArray) (fun a ha => RunRes.run (vs := [.agg (cA Value.bool ([false, false, true, false, false] : List Bool)).toArray]) (.cell (t := 2) (T := 48) (ad := ⟨b1, 0, none⟩) (by kernel_rfl) hL16 .nil) ha (by kernel_rfl)) ⟨rfl, (by kernel_rfl), hI⟩
              · rw [if_neg hb15] at h0
                refine CodT.no' (b := a0 == 7) (by kernel_rfl) (by simpa using hb15) ?_
                refine CodT.skip ?_
                refine Qn.block_normal ?_
                refine Qn.then ?_
                refine CodT.seq ?_
                refine CodT.regionL [0, 1] (by kernel_rfl) ?_
                refine OpsT.pures (r := [1]) [0] [2, 24] (S' := [(2, .pointer (some ⟨b1, 0, none⟩)), (24, .agg (cA Value.bool ([false, false, false, false, false] : List Bool)).toArray)]) (by kernel_rfl) ?_
                refine OpsT.cons (Does.storeAll (T := 48) (b := b1) (n := 5) (xs := (List.replicate 5 (false : Bool))) (ys := ([false, false, false, false, false] : List Bool)) (by kernel_rfl) ty48 hI (fun _ => rfl) (by kernel_rfl) (by kernel_rfl) ?_)
                intro w hI
                refine OpsT.done ?_
                refine Qn.then ?_
                refine CodT.ret ?_
                have hL17 := (ldBN ty48 (l := cA Value.bool ([false, false, false, false, false] : List Bool)) (o := 0) (cs := cA Value.bool ([false, false, false, false, false] : List Bool)) (ent_refl _) ((cA_length _ _).trans (by kernel_rfl)) (whole _ _ ((cA_length _ _).trans (by kernel_rfl)))) w hI
                have hI := hI.drop
                have e := someS h0
                subst e
                refine Qn.keep [2] (S' := [(2, .pointer (some ⟨b1, 0, none⟩))]) (by kernel_rfl) ?_
                exact post_ret (v := .agg (cA Value.bool ([false, false, false, false, false] : List Bool)).toArray) (fun a ha => RunRes.run (vs := [.agg (cA Value.bool ([false, false, false, false, false] : List Bool)).toArray]) (.cell (t := 2) (T := 48) (ad := ⟨b1, 0, none⟩) (by kernel_rfl) hL17 .nil) ha (by kernel_rfl)) ⟨rfl, (by kernel_rfl), hI⟩
set_option maxRecDepth 100000 in
set_option maxHeartbeats 4000000 in
/-- cenotaph/cenotaphref04.GetText -/
theorem c36 (w0 w : World) (Z : Hp) (A : HP) (hI : Inv w0 Z w A) (a0 : ByteArray) (a1 : Int) (r : (ByteArray × ByteArray × Bool)) (h0 : ref04_GetText a0 a1 = some r) :
    Calls prog 36 #[.string a0, .int .i64 a1] w (fun e w' => e = .returned (.tuple #[.string r.1, .string r.2.1, .bool r.2.2]) ∧ Inv w0 Z w' A) := by
  have e4 := calls_intro (R := (fun e w' => e = .returned (.tuple #[.string r.1, .string r.2.1, .bool r.2.2]) ∧ Inv w0 Z w' A)) (w := w) (args := [.string a0, .int .i64 a1]) (fn := Go.Proofs.Try.f36) 35 Go.Proofs.Try.func36 (by rfl) Go.Proofs.Try.ntmps36 (by kernel_rfl)
  refine e4 ?_
  clear e4
  unfold ref04_GetText at h0
  refine CodT.seq ?_
  refine CodT.regionL [0, 1, 2] (by kernel_rfl) ?_
  refine OpsT.pures (r := []) [0, 1, 2] [0, 1] (S' := [(0, .string a0), (1, .int .i64 a1)]) (by kernel_rfl) ?_
  refine OpsT.done ?_
  refine Qn.then ?_
  refine CodT.seq ?_
  refine CodT.regionL [0, 1, 2, 3, 4, 5, 6, 7, 8] (by kernel_rfl) ?_
  refine OpsT.pures (r := [1, 2, 3, 4, 5, 6, 7, 8]) [0] [1, 11] (S' := [(1, .int .i64 a1), (11, .string a0)]) (by kernel_rfl) ?_
  obtain ⟨⟨y2, y3, y4⟩, hc1, h0⟩ := bindS h0
  try dsimp only at h0
  refine OpsT.cons (Does.call (d := some 12) (n := 35) (vs := [.string a0]) (by kernel_rfl) en35 (c35 w0 w _ _ hI a0 _ hc1) ?_)
  rintro e w ⟨rfl, hI⟩
  refine ⟨_, rfl, ?_⟩
  refine OpsT.pures (r := []) [2, 3, 4, 5, 6, 7, 8] [1, 7, 8, 9] (S' := [(1, .int .i64 a1), (7, .int .i64 y2), (8, .string y3), (9, .bool y4)]) (by kernel_rfl) ?_
  refine OpsT.done ?_
  refine Qn.then ?_
  refine CodT.seq ?_
  obtain ⟨r1, h1, h0⟩ := bindS h0
  refine CodT.meet (fun a w => ∃ (x5 : Bool), x5 = r1 ∧ Fr 35 [(7, .int .i64 y2), (8, .string y3), (28, .bool x5)] a ∧ Inv w0 Z w A) ?_ ?_
  ·
    refine CodT.regionL [0, 1, 2, 3, 4, 5, 6, 7, 8, 9, 10, 11, 12] (by kernel_rfl) ?_
    refine OpsT.pures (r := [3, 4, 5, 6, 7, 8, 9, 10, 11, 12]) [0, 1, 2] [1, 7, 8, 18] (S' := [(1, .int .i64 a1), (7, .int .i64 y2), (8, .string y3), (18, .bool (!y4))]) (by kernel_rfl) ?_
    by_cases hb6 : (!y4) = true
    · rw [if_pos hb6] at h1
      refine OpsT.keep [1, 7, 8, 18] (S' := [(1, .int .i64 a1), (7, .int .i64 y2), (8, .string y3), (18, .bool true)]) (by (try simp only [hb6]); kernel_rfl) ?_
      refine OpsT.pures (r := []) [3, 4, 5, 6, 7, 8, 9, 10, 11, 12] [7, 8, 28] (S' := [(7, .int .i64 y2), (8, .string y3), (28, .bool true)]) (by kernel_rfl) ?_
      refine OpsT.done ?_
      have e := someS h1
      subst e
      exact Qn.thenJ fun a ha => ⟨true, rfl, ha.keep [7, 8, 28] (by kernel_rfl), hI⟩
    · rw [if_neg hb6] at h1
      have hb6 : (!y4) = false := by simpa using hb6
      refine OpsT.keep [1, 7, 8, 18] (S' := [(1, .int .i64 a1), (7, .int .i64 y2), (8, .string y3), (18, .bool false)]) (by (try simp only [hb6]); kernel_rfl) ?_
      refine OpsT.pures (r := [9, 10, 11, 12]) [3, 4, 5, 6, 7, 8] [1, 7, 8, 24] (S' := [(1, .int .i64 a1), (7, .int .i64 y2), (8, .string y3), (24, .bool (decide (y2 > (y3.size : Int))))]) (by kernel_rfl) ?_
      by_cases hb7 : (decide (y2 > (y3.size : Int))) = true
      · rw [if_pos hb7] at h1
        refine OpsT.keep [1, 7, 8, 24] (S' := [(1, .int .i64 a1), (7, .int .i64 y2), (8, .string y3), (24, .bool true)]) (by (try simp only [hb7]); kernel_rfl) ?_
        refine OpsT.pures (r := []) [9, 10, 11, 12] [7, 8, 28] (S' := [(7, .int .i64 y2), (8, .string y3), (28, .bool true)]) (by kernel_rfl) ?_
        refine OpsT.done ?_
        have e := someS h1
        subst e
        exact Qn.thenJ fun a ha => ⟨true, rfl, ha.keep [7, 8, 28] (by kernel_rfl), hI⟩
      · rw [if_neg hb7] at h1
        have hb7 : (decide (y2 > (y3.size : Int))) = false := by simpa using hb7
        refine OpsT.keep [1, 7, 8, 24] (S' := [(1, .int .i64 a1), (7, .int .i64 y2), (8, .string y3), (24, .bool false)]) (by (try simp only [hb7]); kernel_rfl) ?_
        refine OpsT.pures (r := []) [9, 10, 11, 12] [7, 8, 28] (S' := [(7, .int .i64 y2), (8, .string y3), (28, .bool (decide (y2 > a1)))]) (by kernel_rfl) ?_
        refine OpsT.done ?_
        have e := someS h1
        subst e
        exact Qn.thenJ fun a ha => ⟨decide (y2 > a1), rfl, ha.keep [7, 8, 28] (by kernel_rfl), hI⟩
  ·
    rintro a w ⟨x5, rfl, ha, hI⟩
    try dsimp only at h0
    refine CodT.of ?_ ha
    by_cases hb8 : x5 = true
    · rw [if_pos hb8] at h0
      refine CodT.yes' (b := x5) (by kernel_rfl) hb8 ?_
      refine CodT.seq ?_
      refine CodT.regionL [0, 1, 2] (by kernel_rfl) ?_
      refine OpsT.pures (r := []) [0, 1, 2] [4, 5, 6] (S' := [(4, .string (⟨#[]⟩ : ByteArray)), (5, .string (⟨#[]⟩ : ByteArray)), (6, .bool false)]) (by kernel_rfl) ?_
      refine OpsT.done ?_
      refine Qn.then ?_
      refine CodT.ret ?_
      refine Qn.ret_then ?_
      have e := someS h0
      subst e
      refine Qn.keep [4, 5, 6] (S' := [(4, .string (⟨#[]⟩ : ByteArray)), (5, .string (⟨#[]⟩ : ByteArray)), (6, .bool false)]) (by kernel_rfl) ?_
      exact post_ret (v := .tuple #[.string (⟨#[]⟩ : ByteArray), .string (⟨#[]⟩ : ByteArray), .bool false]) (fun a ha => RunRes.run (vs := [.string (⟨#[]⟩ : ByteArray), .string (⟨#[]⟩ : ByteArray), .bool false]) (.tmp (t := 4) (by kernel_rfl) (.tmp (t := 5) (by kernel_rfl) (.tmp (t := 6) (by kernel_rfl) .nil))) ha (by kernel_rfl)) ⟨rfl, hI⟩
    · rw [if_neg hb8] at h0
      refine CodT.no' (b := x5) (by kernel_rfl) (by simpa using hb8) ?_
      refine CodT.skip ?_
      refine Qn.then ?_
      refine CodT.seq ?_
      refine CodT.drawI (n := 9) [] (by kernel_rfl) (by kernel_rfl) hI ?_
      intro w hI
      refine GmT.p' 0 29 (.string y3) (by kernel_rfl) (by kernel_rfl) ?_
      refine GmT.p' 1 30 (.int .i64 y2) (by kernel_rfl) (by kernel_rfl) ?_
      refine GmT.p' 3 32 (.string y3) (by kernel_rfl) (by kernel_rfl) ?_
      refine GmT.p' 4 33 (.int .i64 y2) (by kernel_rfl) (by kernel_rfl) ?_
      obtain ⟨hg9, h0⟩ := guardS h0
      refine GmT.r (i := 2) 2 (by kernel_rfl) (by kernel_rfl) (Yl.sliceStr01 (d := 31) (T := 9) (s := y3) (hi := y2) (by kernel_rfl) Go.Proofs.Try.underlying9 hg9) hI ?_
      refine GmT.p' 6 4 (.string (sx y3 0 y2)) (by kernel_rfl) (by kernel_rfl) ?_
      obtain ⟨hg10, h0⟩ := guardS h0
      refine GmT.r (i := 5) 2 (by kernel_rfl) (by kernel_rfl) (Yl.sliceStr10 (d := 34) (T := 9) (s := y3) (lo := y2) (by kernel_rfl) Go.Proofs.Try.underlying9 hg10) hI ?_
      refine GmT.p' 7 5 (.string (sx y3 y2 (y3.size : Int))) (by kernel_rfl) (by kernel_rfl) ?_
      refine GmT.p' 8 6 (.bool true) (by kernel_rfl) (by kernel_rfl) ?_
      refine GmT.done (by kernel_rfl) ?_
      refine Qn.then ?_
      refine CodT.ret ?_
      have e := someS h0
      subst e
      refine Qn.keep [4, 5, 6] (S' := [(4, .string (sx y3 0 y2)), (5, .string (sx y3 y2 (y3.size : Int))), (6, .bool true)]) (by kernel_rfl) ?_
      exact post_ret (v := .tuple #[.string (sx y3 0 y2), .string (sx y3 y2 (y3.size : Int)), .bool true]) (fun a ha => RunRes.run (vs := [.string (sx y3 0 y2), .string (sx y3 y2 (y3.size : Int)), .bool true]) (.tmp (t := 4) (by kernel_rfl) (.tmp (t := 5) (by kernel_rfl) (.tmp (t := 6) (by kernel_rfl) .nil))) ha (by kernel_rfl)) ⟨rfl, hI⟩
set_option maxRecDepth 100000 in
set_option maxHeartbeats 4000000 in
/-- cenotaph/cenotaphref04.GetSum -/
theorem c37 (w0 w : World) (Z : Hp) (A : HP) (hI : Inv w0 Z w A) (a0 : ByteArray) (r : ((List Int) × ByteArray × Bool)) (h0 : ref04_GetSum a0 = some r) :
    Calls prog 37 #[.string a0] w (fun e w' => e = .returned (.tuple #[.agg (cA (Value.int .u8) r.1).toArray, .string r.2.1, .bool r.2.2]) ∧ r.1.length = 32 ∧ Inv w0 Z w' A) := by
  have e4 := calls_intro (R := (fun e w' => e = .returned (.tuple #[.agg (cA (Value.int .u8) r.1).toArray, .string r.2.1, .bool r.2.2]) ∧ r.1.length = 32 ∧ Inv w0 Z w' A)) (w := w) (args := [.string a0]) (fn := Go.Proofs.Try.f37) 23 Go.Proofs.Try.func37 (by rfl) Go.Proofs.Try.ntmps37 (by kernel_rfl)
  refine e4 ?_
  clear e4
  unfold ref04_GetSum at h0
  refine CodT.seq ?_
  refine CodT.regionL [0, 1, 2] (by kernel_rfl) ?_
  refine OpsT.cons (Does.allocL (d := 2) (T := 24) (cA (Value.int .u8) (List.replicate 32 (0 : Int))) (by kernel_rfl) ty24 hI (by kernel_rfl) ?_)
  intro b1 w hI
  refine OpsT.pures (r := []) [1, 2] [0, 2] (S' := [(0, .string a0), (2, .pointer (some ⟨b1, 0, none⟩))]) (by kernel_rfl) ?_
  refine OpsT.done ?_
  refine Qn.then ?_
  refine CodT.seq ?_
  refine CodT.regionL [0] (by kernel_rfl) ?_
  refine OpsT.cons (Does.allocL (d := 5) (T := 24) (cA (Value.int .u8) (List.replicate 32 (0 : Int))) (by kernel_rfl) ty24 hI (by kernel_rfl) ?_)
  intro b2 w hI
  refine OpsT.done ?_
  refine Qn.then ?_
  refine CodT.seq ?_
  refine CodT.seq ?_
  refine CodT.regionL [0, 1, 2] (by kernel_rfl) ?_
  refine OpsT.pures (r := []) [0, 1, 2] [0, 2, 5, 9] (S' := [(0, .string a0), (2, .pointer (some ⟨b1, 0, none⟩)), (5, .pointer (some ⟨b2, 0, none⟩)), (9, .bool (decide ((a0.size : Int) < 32)))]) (by kernel_rfl) ?_
  refine OpsT.done ?_
  refine Qn.then ?_
  by_cases hb3 : (decide ((a0.size : Int) < 32)) = true
  · rw [if_pos hb3] at h0
    refine CodT.yes' (b := decide ((a0.size : Int) < 32)) (by kernel_rfl) hb3 ?_
    refine CodT.seq ?_
    refine CodT.regionL [0, 1, 2, 3] (by kernel_rfl) ?_
    refine OpsT.cons (Does.yi (Yl.load (d := 10) (T := 24) (v := .agg (cA (Value.int .u8) (List.replicate 32 (0 : Int))).toArray) (by kernel_rfl) (ldBN ty24 (l := cA (Value.int .u8) (List.replicate 32 (0 : Int))) (o := 0) (cs := cA (Value.int .u8) (List.replicate 32 (0 : Int))) (ent_refl _) ((cA_length _ _).trans (by kernel_rfl)) (whole _ _ ((cA_length _ _).trans (by kernel_rfl))))) hI ?_)
    have hI := hI.mono (pick2 _ _ _)
    refine OpsT.cons (Does.storeAll (T := 24) (b := b1) (n := 32) (xs := (List.replicate 32 (0 : Int))) (ys := (List.replicate 32 (0 : Int))) (by kernel_rfl) ty24 hI (fun _ => rfl) (by kernel_rfl) (by kernel_rfl) ?_)
    intro w hI
    refine OpsT.pures (r := []) [2, 3] [2, 3, 4] (S' := [(2, .pointer (some ⟨b1, 0, none⟩)), (3, .string (⟨#[]⟩ : ByteArray)), (4, .bool false)]) (by kernel_rfl) ?_
    refine OpsT.done ?_
    refine Qn.then ?_
    refine CodT.ret ?_
    refine Qn.ret_then ?_
    have hL4 := (ldBN ty24 (l := cA (Value.int .u8) (List.replicate 32 (0 : Int))) (o := 0) (cs := cA (Value.int .u8) (List.replicate 32 (0 : Int))) (ent_refl _) ((cA_length _ _).trans (by kernel_rfl)) (whole _ _ ((cA_length _ _).trans (by kernel_rfl)))) w hI
    have hI := hI.drop
    have hI := hI.drop
    have e := someS h0
    subst e
    refine Qn.keep [2, 3, 4] (S' := [(2, .pointer (some ⟨b1, 0, none⟩)), (3, .string (⟨#[]⟩ : ByteArray)), (4, .bool false)]) (by kernel_rfl) ?_
    exact post_ret (v := .tuple #[.agg (cA (Value.int .u8) (List.replicate 32 (0 : Int))).toArray, .string (⟨#[]⟩ : ByteArray), .bool false]) (fun a ha => RunRes.run (vs := [.agg (cA (Value.int .u8) (List.replicate 32 (0 : Int))).toArray, .string (⟨#[]⟩ : ByteArray), .bool false]) (.cell (t := 2) (T := 24) (ad := ⟨b1, 0, none⟩) (by kernel_rfl) hL4 (.tmp (t := 3) (by kernel_rfl) (.tmp (t := 4) (by kernel_rfl) .nil))) ha (by kernel_rfl)) ⟨rfl, (by kernel_rfl), hI⟩
  · rw [if_neg hb3] at h0
    refine CodT.no' (b := decide ((a0.size : Int) < 32)) (by kernel_rfl) (by simpa using hb3) ?_
    refine CodT.skip ?_
    refine Qn.then ?_
    refine CodT.seq ?_
    refine CodT.seq ?_
    refine CodT.regionL [0] (by kernel_rfl) ?_
    refine OpsT.pures (r := []) [0] [0, 2, 5, 6] (S' := [(0, .string a0), (2, .pointer (some ⟨b1, 0, none⟩)), (5, .pointer (some ⟨b2, 0, none⟩)), (6, .int .i64 0)]) (by kernel_rfl) ?_
    refine OpsT.done ?_
    refine Qn.then ?_
    obtain ⟨r1, h1, h0⟩ := bindS h0
    refine CodT.meet1 (fun a w => ∃ (x5 : (List Int)), x5 = r1 ∧ Fr 23 [(0, .string a0), (2, .pointer (some ⟨b1, 0, none⟩)), (5, .pointer (some ⟨b2, 0, none⟩))] a ∧ Inv w0 Z w (star (pt b2 (.cells (cA (Value.int .u8) x5).toArray 24 (0, 0))) (star (pt b1 (.cells (cA (Value.int .u8) (List.replicate 32 (0 : Int))).toArray 24 (0, 0))) A)) ∧ x5.length = 32) ?_ ?_
    ·
      refine CodT.block ?_
      refine (fun a ha => wp_loopN (fun k a w => ∃ (x7 : Int) (x8 : (List Int)), ref04_GetSum.l0 a0 k x7 x8 = some r1 ∧ Fr 23 [(0, .string a0), (2, .pointer (some ⟨b1, 0, none⟩)), (5, .pointer (some ⟨b2, 0, none⟩)), (6, .int .i64 x7)] a ∧ Inv w0 Z w (star (pt b2 (.cells (cA (Value.int .u8) x8).toArray 24 (0, 0))) (star (pt b1 (.cells (cA (Value.int .u8) (List.replicate 32 (0 : Int))).toArray 24 (0, 0))) A)) ∧ x8.length = 32) ?_ FU a w ⟨0, (List.replicate 32 (0 : Int)), h1, ha.keep [0, 2, 5, 6] (by kernel_rfl), hI, (by kernel_rfl)⟩)
      clear h1 hI
      rintro k a w ⟨x7, x8, h1, ha, hI, hl9⟩
      rcases k with _ | k
      · cases h1
      simp only [ref04_GetSum.l0] at h1
      refine CodT.of ?_ ha
      refine CodT.seq ?_
      refine CodT.seq ?_
      refine CodT.regionL [0, 1] (by kernel_rfl) ?_
      refine OpsT.pures (r := []) [0, 1] [0, 2, 5, 6, 12] (S' := [(0, .string a0), (2, .pointer (some ⟨b1, 0, none⟩)), (5, .pointer (some ⟨b2, 0, none⟩)), (6, .int .i64 x7), (12, .bool (decide (x7 < 32)))]) (by kernel_rfl) ?_
      refine OpsT.done ?_
      refine Qn.then ?_
      by_cases hb10 : (decide (x7 < 32)) = true
      · rw [if_pos hb10] at h1
        refine CodT.yes' (b := decide (x7 < 32)) (by kernel_rfl) hb10 ?_
        refine CodT.skip ?_
        refine Qn.then ?_
        refine CodT.seq ?_
        refine CodT.block ?_
        refine CodT.regionL [0, 1, 2, 3, 4, 5] (by kernel_rfl) ?_
        refine OpsT.pures (r := [3, 4, 5]) [0, 1, 2] [0, 2, 5, 6, 15, 16, 17] (S' := [(0, .string a0), (2, .pointer (some ⟨b1, 0, none⟩)), (5, .pointer (some ⟨b2, 0, none⟩)), (6, .int .i64 x7), (15, .int .i64 x7), (16, .string a0), (17, .int .i64 x7)]) (by kernel_rfl) ?_
        obtain ⟨hg11, h1⟩ := guardS h1
        refine OpsT.cons (Does.yi (Yl.indexStr (d := 18) (T := 9) (k := .i64) (j := x7) (s := a0) (by kernel_rfl) Go.Proofs.Try.underlying9 hg11.1 hg11.2) hI ?_)
        obtain ⟨hg12, h1⟩ := guardS h1
        refine OpsT.cons (Does.yi (Yl.indexArr (d := 19) (T := 24) (k := .i64) (j := x7) (g := b2) (o := 0) (by kernel_rfl) Go.Proofs.Try.underlying24 ty5 hg12.1 hg12.2) hI ?_)
        refine OpsT.cons (Does.storeArr (e := (Value.int .u8)) (xs := x8) (u := bt a0 x7) (T := 5) (b := b2) (j := x7) (by kernel_rfl) ty5 hI (by kernel_rfl) (by kernel_rfl) hg12.1 (by have := And.intro hl9 hg12.2; omega) ?_)
        intro w hI
        refine OpsT.done ?_
        refine Qn.block_normal ?_
        refine Qn.then ?_
        refine CodT.regionL [0, 1, 2] (by kernel_rfl) ?_
        refine OpsT.pures (r := []) [0, 1, 2] [0, 2, 5, 6] (S' := [(0, .string a0), (2, .pointer (some ⟨b1, 0, none⟩)), (5, .pointer (some ⟨b2, 0, none⟩)), (6, .int .i64 (wi64 (x7 + 1)))]) (by kernel_rfl) ?_
        refine OpsT.done ?_
        exact Qn.thenJ fun a ha => ⟨k, Nat.lt_succ_self k, wi64 (x7 + 1), st x8 x7 (bt a0 x7), h1, ha.keep [0, 2, 5, 6] (by kernel_rfl), hI, ((st_length _ _ _).trans hl9)⟩
      · rw [if_neg hb10] at h1
        refine CodT.no' (b := decide (x7 < 32)) (by kernel_rfl) (by simpa using hb10) ?_
        refine CodT.exit ?_
        refine Qn.exit_then ?_
        refine Qn.exit_then ?_
        refine Qn.block ?_
        have e := someS h1
        subst e
        exact Qn.thenJ fun a ha => ⟨x8, rfl, ha.keep [0, 2, 5] (by kernel_rfl), hI, hl9⟩
    ·
      rintro a w ⟨x5, rfl, ha, hI, hl6⟩
      try dsimp only at h0
      refine Qn.of ?_ ha
      refine Qn.then ?_
      refine CodT.seq ?_
      refine CodT.drawC (n := 6) (B := (star (pt b2 (.cells (cA (Value.int .u8) x5).toArray 24 (0, 0))) A)) [] (by kernel_rfl) (by kernel_rfl) hI ?_
      intro w hI
      refine GmT.p' 1 21 (.string a0) (by kernel_rfl) (by kernel_rfl) ?_
      have hC := hI
      have hC := hC.mono (pick2 _ _ _)
      have hC := hC.drop
      refine GmT.r (i := 0) 2 (by kernel_rfl) (by kernel_rfl) (Yl.load (d := 20) (T := 24) (v := .agg (cA (Value.int .u8) x5).toArray) (by kernel_rfl) (ldBN ty24 (l := cA (Value.int .u8) x5) (o := 0) (cs := cA (Value.int .u8) x5) (ent_refl _) ((cA_length _ _).trans hl6) (whole _ _ ((cA_length _ _).trans hl6)))) hC ?_
      obtain ⟨hg13, h0⟩ := guardS h0
      have hC := hI
      have hC := hC.mono (pick2 _ _ _)
      have hC := hC.drop
      refine GmT.r (i := 2) 2 (by kernel_rfl) (by kernel_rfl) (Yl.sliceStr10 (d := 22) (T := 9) (s := a0) (lo := 32) (by kernel_rfl) Go.Proofs.Try.underlying9 hg13) hC ?_
      have hI := hI.mono (pick2 _ _ _)
      refine GmT.o (i := 3) (by kernel_rfl) (Does.storeAll (T := 24) (b := b1) (n := 32) (xs := (List.replicate 32 (0 : Int))) (ys := x5) (by kernel_rfl) ty24 hI (fun _ => rfl) (by kernel_rfl) hl6 ?_)
      intro w hI
      have hC := hI
      have hC := hC.drop
      refine ⟨fun _ _ => hC, ?_⟩
      refine GmT.p' 4 3 (.string (sx a0 32 (a0.size : Int))) (by kernel_rfl) (by kernel_rfl) ?_
      refine GmT.p' 5 4 (.bool true) (by kernel_rfl) (by kernel_rfl) ?_
      refine GmT.done (by kernel_rfl) ?_
      refine Qn.then ?_
      refine CodT.ret ?_
      have hL14 := (ldBN ty24 (l := cA (Value.int .u8) x5) (o := 0) (cs := cA (Value.int .u8) x5) (ent_refl _) ((cA_length _ _).trans hl6) (whole _ _ ((cA_length _ _).trans hl6))) w hI
      have hI := hI.drop
      have hI := hI.drop
      have e := someS h0
      subst e
      refine Qn.keep [2, 3, 4] (S' := [(2, .pointer (some ⟨b1, 0, none⟩)), (3, .string (sx a0 32 (a0.size : Int))), (4, .bool true)]) (by kernel_rfl) ?_
      exact post_ret (v := .tuple #[.agg (cA (Value.int .u8) x5).toArray, .string (sx a0 32 (a0.size : Int)), .bool true]) (fun a ha => RunRes.run (vs := [.agg (cA (Value.int .u8) x5).toArray, .string (sx a0 32 (a0.size : Int)), .bool true]) (.cell (t := 2) (T := 24) (ad := ⟨b1, 0, none⟩) (by kernel_rfl) hL14 (.tmp (t := 3) (by kernel_rfl) (.tmp (t := 4) (by kernel_rfl) .nil))) ha (by kernel_rfl)) ⟨rfl, hl6, hI⟩
set_option maxRecDepth 100000 in
set_option maxHeartbeats 4000000 in
/-- cenotaph/cenotaphref03.Rune -/
theorem c43 (w0 w : World) (Z : Hp) (A : HP) (hI : Inv w0 Z w A) (a0 : ByteArray) (r : (Int × Int)) (h0 : ref03_Rune a0 = some r) :
    Calls prog 43 #[.string a0] w (fun e w' => e = .returned (.tuple #[.int .i64 r.1, .int .i64 r.2]) ∧ Inv w0 Z w' A) := by
  have e4 := calls_intro (R := (fun e w' => e = .returned (.tuple #[.int .i64 r.1, .int .i64 r.2]) ∧ Inv w0 Z w' A)) (w := w) (args := [.string a0]) (fn := Go.Proofs.Try.f43) 85 Go.Proofs.Try.func43 (by rfl) Go.Proofs.Try.ntmps43 (by kernel_rfl)
  refine e4 ?_
  clear e4
  unfold ref03_Rune at h0
  refine CodT.seq ?_
  refine CodT.regionL [0, 1] (by kernel_rfl) ?_
  refine OpsT.pures (r := []) [0, 1] [0] (S' := [(0, .string a0)]) (by kernel_rfl) ?_
  refine OpsT.done ?_
  refine Qn.then ?_
  refine CodT.seq ?_
  refine CodT.regionL [0, 1, 2, 3] (by kernel_rfl) ?_
  refine OpsT.pures (r := [1, 2, 3]) [0] [0, 10] (S' := [(0, .string a0), (10, .string a0)]) (by kernel_rfl) ?_
  obtain ⟨hg1, h0⟩ := guardS h0
  refine OpsT.cons (Does.yi (Yl.indexStr (d := 11) (T := 9) (k := .i64) (j := 0) (s := a0) (by kernel_rfl) Go.Proofs.Try.underlying9 hg1.1 hg1.2) hI ?_)
  refine OpsT.pures (r := []) [2, 3] [0, 4] (S' := [(0, .string a0), (4, .int .i64 (wi64 (bt a0 0)))]) (by kernel_rfl) ?_
  refine OpsT.done ?_
  refine Qn.then ?_
  refine CodT.seq ?_
  refine CodT.seq ?_
  refine CodT.regionL [0, 1] (by kernel_rfl) ?_
  refine OpsT.pures (r := []) [0, 1] [0, 4, 14] (S' := [(0, .string a0), (4, .int .i64 (wi64 (bt a0 0))), (14, .bool (decide ((wi64 (bt a0 0)) < 128)))]) (by kernel_rfl) ?_
  refine OpsT.done ?_
  refine Qn.then ?_
  by_cases hb2 : (decide ((wi64 (bt a0 0)) < 128)) = true
  · rw [if_pos hb2] at h0
    refine CodT.yes' (b := decide ((wi64 (bt a0 0)) < 128)) (by kernel_rfl) hb2 ?_
    refine CodT.seq ?_
    refine CodT.regionL [0, 1, 2] (by kernel_rfl) ?_
    refine OpsT.pures (r := []) [0, 1, 2] [2, 3] (S' := [(2, .int .i64 (wi64 (bt a0 0))), (3, .int .i64 1)]) (by kernel_rfl) ?_
    refine OpsT.done ?_
    refine Qn.then ?_
    refine CodT.ret ?_
    refine Qn.ret_then ?_
    have e := someS h0
    subst e
    refine Qn.keep [2, 3] (S' := [(2, .int .i64 (wi64 (bt a0 0))), (3, .int .i64 1)]) (by kernel_rfl) ?_
    exact post_ret (v := .tuple #[.int .i64 (wi64 (bt a0 0)), .int .i64 1]) (fun a ha => RunRes.run (vs := [.int .i64 (wi64 (bt a0 0)), .int .i64 1]) (.tmp (t := 2) (by kernel_rfl) (.tmp (t := 3) (by kernel_rfl) .nil)) ha (by kernel_rfl)) ⟨rfl, hI⟩
  · rw [if_neg hb2] at h0
    refine CodT.no' (b := decide ((wi64 (bt a0 0)) < 128)) (by kernel_rfl) (by simpa using hb2) ?_
    refine CodT.skip ?_
    refine Qn.then ?_
    refine CodT.seq ?_
    refine CodT.regionL [0] (by kernel_rfl) ?_
    refine OpsT.pures (r := []) [0] [0, 4, 5] (S' := [(0, .string a0), (4, .int .i64 (wi64 (bt a0 0))), (5, .int .i64 0)]) (by kernel_rfl) ?_
    refine OpsT.done ?_
    refine Qn.then ?_
    refine CodT.seq ?_
    refine CodT.regionL [0] (by kernel_rfl) ?_
    refine OpsT.pures (r := []) [0] [0, 4, 5, 6] (S' := [(0, .string a0), (4, .int .i64 (wi64 (bt a0 0))), (5, .int .i64 0), (6, .int .i64 0)]) (by kernel_rfl) ?_
    refine OpsT.done ?_
    refine Qn.then ?_
    refine CodT.seq ?_
    refine CodT.regionL [0] (by kernel_rfl) ?_
    refine OpsT.pures (r := []) [0] [0, 4, 5, 6, 7] (S' := [(0, .string a0), (4, .int .i64 (wi64 (bt a0 0))), (5, .int .i64 0), (6, .int .i64 0), (7, .int .i64 0)]) (by kernel_rfl) ?_
    refine OpsT.done ?_
    refine Qn.then ?_
    obtain ⟨r1, h1, h0⟩ := bindS h0
    refine CodT.meet (fun a w => ∃ (x3 : Int) (x4 : Int) (x5 : Int), (x3, x4, x5) = r1 ∧ Fr 85 [(0, .string a0), (5, .int .i64 x3), (6, .int .i64 x4), (7, .int .i64 x5)] a ∧ Inv w0 Z w A) ?_ ?_
    ·
      obtain ⟨r2, h2, h1⟩ := bindS h1
      refine CodT.meet (fun a w => ∃ (x6 : Bool), x6 = r2 ∧ Fr 85 [(0, .string a0), (4, .int .i64 (wi64 (bt a0 0))), (5, .int .i64 0), (6, .int .i64 0), (7, .int .i64 0), (21, .bool x6)] a ∧ Inv w0 Z w A) ?_ ?_
      ·
        refine CodT.regionL [0, 1, 2, 3, 4, 5] (by kernel_rfl) ?_
        refine OpsT.pures (r := [3, 4, 5]) [0, 1, 2] [0, 4, 5, 6, 7, 18] (S' := [(0, .string a0), (4, .int .i64 (wi64 (bt a0 0))), (5, .int .i64 0), (6, .int .i64 0), (7, .int .i64 0), (18, .bool (decide ((wi64 (bt a0 0)) ≥ 194)))]) (by kernel_rfl) ?_
        by_cases hb7 : (decide ((wi64 (bt a0 0)) ≥ 194)) = true
        · rw [if_pos hb7] at h2
          refine OpsT.keep [0, 4, 5, 6, 7, 18] (S' := [(0, .string a0), (4, .int .i64 (wi64 (bt a0 0))), (5, .int .i64 0), (6, .int .i64 0), (7, .int .i64 0), (18, .bool true)]) (by (try simp only [hb7]); kernel_rfl) ?_
          refine OpsT.pures (r := []) [3, 4, 5] [0, 4, 5, 6, 7, 21] (S' := [(0, .string a0), (4, .int .i64 (wi64 (bt a0 0))), (5, .int .i64 0), (6, .int .i64 0), (7, .int .i64 0), (21, .bool (decide ((wi64 (bt a0 0)) < 224)))]) (by kernel_rfl) ?_
          refine OpsT.done ?_
          have e := someS h2
          subst e
          exact Qn.thenJ fun a ha => ⟨decide ((wi64 (bt a0 0)) < 224), rfl, ha.keep [0, 4, 5, 6, 7, 21] (by kernel_rfl), hI⟩
        · rw [if_neg hb7] at h2
          have hb7 : (decide ((wi64 (bt a0 0)) ≥ 194)) = false := by simpa using hb7
          refine OpsT.keep [0, 4, 5, 6, 7, 18] (S' := [(0, .string a0), (4, .int .i64 (wi64 (bt a0 0))), (5, .int .i64 0), (6, .int .i64 0), (7, .int .i64 0), (18, .bool false)]) (by (try simp only [hb7]); kernel_rfl) ?_
          refine OpsT.pures (r := []) [3, 4, 5] [0, 4, 5, 6, 7, 21] (S' := [(0, .string a0), (4, .int .i64 (wi64 (bt a0 0))), (5, .int .i64 0), (6, .int .i64 0), (7, .int .i64 0), (21, .bool false)]) (by kernel_rfl) ?_
          refine OpsT.done ?_
          have e := someS h2
          subst e
          exact Qn.thenJ fun a ha => ⟨false, rfl, ha.keep [0, 4, 5, 6, 7, 21] (by kernel_rfl), hI⟩
      ·
        rintro a w ⟨x6, rfl, ha, hI⟩
        try dsimp only at h1
        refine CodT.of ?_ ha
        by_cases hb8 : x6 = true
        · rw [if_pos hb8] at h1
          refine CodT.yes' (b := x6) (by kernel_rfl) hb8 ?_
          refine CodT.seq ?_
          refine CodT.regionL [0] (by kernel_rfl) ?_
          refine OpsT.pures (r := []) [0] [0, 4, 5] (S' := [(0, .string a0), (4, .int .i64 (wi64 (bt a0 0))), (5, .int .i64 2)]) (by kernel_rfl) ?_
          refine OpsT.done ?_
          refine Qn.then ?_
          refine CodT.seq ?_
          refine CodT.regionL [0] (by kernel_rfl) ?_
          refine OpsT.pures (r := []) [0] [0, 4, 5, 6] (S' := [(0, .string a0), (4, .int .i64 (wi64 (bt a0 0))), (5, .int .i64 2), (6, .int .i64 128)]) (by kernel_rfl) ?_
          refine OpsT.done ?_
          refine Qn.then ?_
          refine CodT.regionL [0, 1, 2] (by kernel_rfl) ?_
          refine OpsT.pures (r := []) [0, 1, 2] [0, 5, 6, 7] (S' := [(0, .string a0), (5, .int .i64 2), (6, .int .i64 128), (7, .int .i64 (wi64 ((wi64 (bt a0 0)) - 192)))]) (by kernel_rfl) ?_
          refine OpsT.done ?_
          have e := someS h1
          subst e
          exact Qn.thenJ fun a ha => ⟨2, 128, wi64 ((wi64 (bt a0 0)) - 192), rfl, ha.keep [0, 5, 6, 7] (by kernel_rfl), hI⟩
        · rw [if_neg hb8] at h1
          refine CodT.no' (b := x6) (by kernel_rfl) (by simpa using hb8) ?_
          obtain ⟨r2, h2, h1⟩ := bindS h1
          refine CodT.meet (fun a w => ∃ (x9 : Bool), x9 = r2 ∧ Fr 85 [(0, .string a0), (4, .int .i64 (wi64 (bt a0 0))), (5, .int .i64 0), (6, .int .i64 0), (7, .int .i64 0), (29, .bool x9)] a ∧ Inv w0 Z w A) ?_ ?_
          ·
            refine CodT.regionL [0, 1, 2, 3, 4, 5] (by kernel_rfl) ?_
            refine OpsT.pures (r := [3, 4, 5]) [0, 1, 2] [0, 4, 5, 6, 7, 26] (S' := [(0, .string a0), (4, .int .i64 (wi64 (bt a0 0))), (5, .int .i64 0), (6, .int .i64 0), (7, .int .i64 0), (26, .bool (decide ((wi64 (bt a0 0)) ≥ 224)))]) (by kernel_rfl) ?_
            by_cases hb10 : (decide ((wi64 (bt a0 0)) ≥ 224)) = true
            · rw [if_pos hb10] at h2
              refine OpsT.keep [0, 4, 5, 6, 7, 26] (S' := [(0, .string a0), (4, .int .i64 (wi64 (bt a0 0))), (5, .int .i64 0), (6, .int .i64 0), (7, .int .i64 0), (26, .bool true)]) (by (try simp only [hb10]); kernel_rfl) ?_
              refine OpsT.pures (r := []) [3, 4, 5] [0, 4, 5, 6, 7, 29] (S' := [(0, .string a0), (4, .int .i64 (wi64 (bt a0 0))), (5, .int .i64 0), (6, .int .i64 0), (7, .int .i64 0), (29, .bool (decide ((wi64 (bt a0 0)) < 240)))]) (by kernel_rfl) ?_
              refine OpsT.done ?_
              have e := someS h2
              subst e
              exact Qn.thenJ fun a ha => ⟨decide ((wi64 (bt a0 0)) < 240), rfl, ha.keep [0, 4, 5, 6, 7, 29] (by kernel_rfl), hI⟩
            · rw [if_neg hb10] at h2
              have hb10 : (decide ((wi64 (bt a0 0)) ≥ 224)) = false := by simpa using hb10
              refine OpsT.keep [0, 4, 5, 6, 7, 26] (S' := [(0, .string a0), (4, .int .i64 (wi64 (bt a0 0))), (5, .int .i64 0), (6, .int .i64 0), (7, .int .i64 0), (26, .bool false)]) (by (try simp only [hb10]); kernel_rfl) ?_
              refine OpsT.pures (r := []) [3, 4, 5] [0, 4, 5, 6, 7, 29] (S' := [(0, .string a0), (4, .int .i64 (wi64 (bt a0 0))), (5, .int .i64 0), (6, .int .i64 0), (7, .int .i64 0), (29, .bool false)]) (by kernel_rfl) ?_
              refine OpsT.done ?_
              have e := someS h2
              subst e
              exact Qn.thenJ fun a ha => ⟨false, rfl, ha.keep [0, 4, 5, 6, 7, 29] (by kernel_rfl), hI⟩
          ·
            rintro a w ⟨x9, rfl, ha, hI⟩
            try dsimp only at h1
            refine CodT.of ?_ ha
            by_cases hb11 : x9 = true
            · rw [if_pos hb11] at h1
              refine CodT.yes' (b := x9) (by kernel_rfl) hb11 ?_
              refine CodT.seq ?_
              refine CodT.regionL [0] (by kernel_rfl) ?_
              refine OpsT.pures (r := []) [0] [0, 4, 5] (S' := [(0, .string a0), (4, .int .i64 (wi64 (bt a0 0))), (5, .int .i64 3)]) (by kernel_rfl) ?_
              refine OpsT.done ?_
              refine Qn.then ?_
              refine CodT.seq ?_
              refine CodT.regionL [0] (by kernel_rfl) ?_
              refine OpsT.pures (r := []) [0] [0, 4, 5, 6] (S' := [(0, .string a0), (4, .int .i64 (wi64 (bt a0 0))), (5, .int .i64 3), (6, .int .i64 2048)]) (by kernel_rfl) ?_
              refine OpsT.done ?_
              refine Qn.then ?_
              refine CodT.regionL [0, 1, 2] (by kernel_rfl) ?_
              refine OpsT.pures (r := []) [0, 1, 2] [0, 5, 6, 7] (S' := [(0, .string a0), (5, .int .i64 3), (6, .int .i64 2048), (7, .int .i64 (wi64 ((wi64 (bt a0 0)) - 224)))]) (by kernel_rfl) ?_
              refine OpsT.done ?_
              have e := someS h1
              subst e
              exact Qn.thenJ fun a ha => ⟨3, 2048, wi64 ((wi64 (bt a0 0)) - 224), rfl, ha.keep [0, 5, 6, 7] (by kernel_rfl), hI⟩
            · rw [if_neg hb11] at h1
              refine CodT.no' (b := x9) (by kernel_rfl) (by simpa using hb11) ?_
              obtain ⟨r2, h2, h1⟩ := bindS h1
              refine CodT.meet (fun a w => ∃ (x12 : Bool), x12 = r2 ∧ Fr 85 [(0, .string a0), (4, .int .i64 (wi64 (bt a0 0))), (5, .int .i64 0), (6, .int .i64 0), (7, .int .i64 0), (37, .bool x12)] a ∧ Inv w0 Z w A) ?_ ?_
              ·
                refine CodT.regionL [0, 1, 2, 3, 4, 5] (by kernel_rfl) ?_
                refine OpsT.pures (r := [3, 4, 5]) [0, 1, 2] [0, 4, 5, 6, 7, 34] (S' := [(0, .string a0), (4, .int .i64 (wi64 (bt a0 0))), (5, .int .i64 0), (6, .int .i64 0), (7, .int .i64 0), (34, .bool (decide ((wi64 (bt a0 0)) ≥ 240)))]) (by kernel_rfl) ?_
                by_cases hb13 : (decide ((wi64 (bt a0 0)) ≥ 240)) = true
                · rw [if_pos hb13] at h2
                  refine OpsT.keep [0, 4, 5, 6, 7, 34] (S' := [(0, .string a0), (4, .int .i64 (wi64 (bt a0 0))), (5, .int .i64 0), (6, .int .i64 0), (7, .int .i64 0), (34, .bool true)]) (by (try simp only [hb13]); kernel_rfl) ?_
                  refine OpsT.pures (r := []) [3, 4, 5] [0, 4, 5, 6, 7, 37] (S' := [(0, .string a0), (4, .int .i64 (wi64 (bt a0 0))), (5, .int .i64 0), (6, .int .i64 0), (7, .int .i64 0), (37, .bool (decide ((wi64 (bt a0 0)) < 245)))]) (by kernel_rfl) ?_
                  refine OpsT.done ?_
                  have e := someS h2
                  subst e
                  exact Qn.thenJ fun a ha => ⟨decide ((wi64 (bt a0 0)) < 245), rfl, ha.keep [0, 4, 5, 6, 7, 37] (by kernel_rfl), hI⟩
                · rw [if_neg hb13] at h2
                  have hb13 : (decide ((wi64 (bt a0 0)) ≥ 240)) = false := by simpa using hb13
                  refine OpsT.keep [0, 4, 5, 6, 7, 34] (S' := [(0, .string a0), (4, .int .i64 (wi64 (bt a0 0))), (5, .int .i64 0), (6, .int .i64 0), (7, .int .i64 0), (34, .bool false)]) (by (try simp only [hb13]); kernel_rfl) ?_
                  refine OpsT.pures (r := []) [3, 4, 5] [0, 4, 5, 6, 7, 37] (S' := [(0, .string a0), (4, .int .i64 (wi64 (bt a0 0))), (5, .int .i64 0), (6, .int .i64 0), (7, .int .i64 0), (37, .bool false)]) (by kernel_rfl) ?_
                  refine OpsT.done ?_
                  have e := someS h2
                  subst e
                  exact Qn.thenJ fun a ha => ⟨false, rfl, ha.keep [0, 4, 5, 6, 7, 37] (by kernel_rfl), hI⟩
              ·
                rintro a w ⟨x12, rfl, ha, hI⟩
                try dsimp only at h1
                refine CodT.of ?_ ha
                by_cases hb14 : x12 = true
                · rw [if_pos hb14] at h1
                  refine CodT.yes' (b := x12) (by kernel_rfl) hb14 ?_
                  refine CodT.seq ?_
                  refine CodT.regionL [0] (by kernel_rfl) ?_
                  refine OpsT.pures (r := []) [0] [0, 4, 5] (S' := [(0, .string a0), (4, .int .i64 (wi64 (bt a0 0))), (5, .int .i64 4)]) (by kernel_rfl) ?_
                  refine OpsT.done ?_
                  refine Qn.then ?_
                  refine CodT.seq ?_
                  refine CodT.regionL [0] (by kernel_rfl) ?_
                  refine OpsT.pures (r := []) [0] [0, 4, 5, 6] (S' := [(0, .string a0), (4, .int .i64 (wi64 (bt a0 0))), (5, .int .i64 4), (6, .int .i64 65536)]) (by kernel_rfl) ?_
                  refine OpsT.done ?_
                  refine Qn.then ?_
                  refine CodT.regionL [0, 1, 2] (by kernel_rfl) ?_
                  refine OpsT.pures (r := []) [0, 1, 2] [0, 5, 6, 7] (S' := [(0, .string a0), (5, .int .i64 4), (6, .int .i64 65536), (7, .int .i64 (wi64 ((wi64 (bt a0 0)) - 240)))]) (by kernel_rfl) ?_
                  refine OpsT.done ?_
                  have e := someS h1
                  subst e
                  exact Qn.thenJ fun a ha => ⟨4, 65536, wi64 ((wi64 (bt a0 0)) - 240), rfl, ha.keep [0, 5, 6, 7] (by kernel_rfl), hI⟩
                · rw [if_neg hb14] at h1
                  refine CodT.no' (b := x12) (by kernel_rfl) (by simpa using hb14) ?_
                  refine CodT.skip ?_
                  have e := someS h1
                  subst e
                  exact Qn.thenJ fun a ha => ⟨0, 0, 0, rfl, ha.keep [0, 5, 6, 7] (by kernel_rfl), hI⟩
    ·
      rintro a w ⟨x3, x4, x5, rfl, ha, hI⟩
      try dsimp only at h0
      refine CodT.of ?_ ha
      refine CodT.seq ?_
      obtain ⟨r1, h1, h0⟩ := bindS h0
      refine CodT.meet (fun a w => ∃ (x15 : Bool), x15 = r1 ∧ Fr 85 [(0, .string a0), (5, .int .i64 x3), (6, .int .i64 x4), (7, .int .i64 x5), (47, .bool x15)] a ∧ Inv w0 Z w A) ?_ ?_
      ·
        refine CodT.regionL [0, 1, 2, 3, 4, 5, 6, 7] (by kernel_rfl) ?_
        refine OpsT.pures (r := [3, 4, 5, 6, 7]) [0, 1, 2] [0, 5, 6, 7, 42] (S' := [(0, .string a0), (5, .int .i64 x3), (6, .int .i64 x4), (7, .int .i64 x5), (42, .bool (x3 == 0))]) (by kernel_rfl) ?_
        by_cases hb16 : (x3 == 0) = true
        · rw [if_pos hb16] at h1
          refine OpsT.keep [0, 5, 6, 7, 42] (S' := [(0, .string a0), (5, .int .i64 x3), (6, .int .i64 x4), (7, .int .i64 x5), (42, .bool true)]) (by (try simp only [hb16]); kernel_rfl) ?_
          refine OpsT.pures (r := []) [3, 4, 5, 6, 7] [0, 5, 6, 7, 47] (S' := [(0, .string a0), (5, .int .i64 x3), (6, .int .i64 x4), (7, .int .i64 x5), (47, .bool true)]) (by kernel_rfl) ?_
          refine OpsT.done ?_
          have e := someS h1
          subst e
          exact Qn.thenJ fun a ha => ⟨true, rfl, ha.keep [0, 5, 6, 7, 47] (by kernel_rfl), hI⟩
        · rw [if_neg hb16] at h1
          have hb16 : (x3 == 0) = false := by simpa using hb16
          refine OpsT.keep [0, 5, 6, 7, 42] (S' := [(0, .string a0), (5, .int .i64 x3), (6, .int .i64 x4), (7, .int .i64 x5), (42, .bool false)]) (by (try simp only [hb16]); kernel_rfl) ?_
          refine OpsT.pures (r := []) [3, 4, 5, 6, 7] [0, 5, 6, 7, 47] (S' := [(0, .string a0), (5, .int .i64 x3), (6, .int .i64 x4), (7, .int .i64 x5), (47, .bool (decide ((a0.size : Int) < x3)))]) (by kernel_rfl) ?_
          refine OpsT.done ?_
          have e := someS h1
          subst e
          exact Qn.thenJ fun a ha => ⟨decide ((a0.size : Int) < x3), rfl, ha.keep [0, 5, 6, 7, 47] (by kernel_rfl), hI⟩
      ·
        rintro a w ⟨x15, rfl, ha, hI⟩
        try dsimp only at h0
        refine CodT.of ?_ ha
        by_cases hb17 : x15 = true
        · rw [if_pos hb17] at h0
          refine CodT.yes' (b := x15) (by kernel_rfl) hb17 ?_
          refine CodT.seq ?_
          refine CodT.regionL [0, 1] (by kernel_rfl) ?_
          refine OpsT.pures (r := []) [0, 1] [2, 3] (S' := [(2, .int .i64 (-1)), (3, .int .i64 1)]) (by kernel_rfl) ?_
          refine OpsT.done ?_
          refine Qn.then ?_
          refine CodT.ret ?_
          refine Qn.ret_then ?_
          have e := someS h0
          subst e
          refine Qn.keep [2, 3] (S' := [(2, .int .i64 (-1)), (3, .int .i64 1)]) (by kernel_rfl) ?_
          exact post_ret (v := .tuple #[.int .i64 (-1), .int .i64 1]) (fun a ha => RunRes.run (vs := [.int .i64 (-1), .int .i64 1]) (.tmp (t := 2) (by kernel_rfl) (.tmp (t := 3) (by kernel_rfl) .nil)) ha (by kernel_rfl)) ⟨rfl, hI⟩
        · rw [if_neg hb17] at h0
          refine CodT.no' (b := x15) (by kernel_rfl) (by simpa using hb17) ?_
          refine CodT.skip ?_
          refine Qn.then ?_
          refine CodT.seq ?_
          refine CodT.seq ?_
          refine CodT.regionL [0] (by kernel_rfl) ?_
          refine OpsT.pures (r := []) [0] [0, 5, 6, 7, 8] (S' := [(0, .string a0), (5, .int .i64 x3), (6, .int .i64 x4), (7, .int .i64 x5), (8, .int .i64 1)]) (by kernel_rfl) ?_
          refine OpsT.done ?_
          refine Qn.then ?_
          obtain ⟨r1, h1, h0⟩ := bindS h0
          refine CodT.meet1 (fun a w => ∃ (x18 : Int), .inr x18 = r1 ∧ Fr 85 [(5, .int .i64 x3), (6, .int .i64 x4), (7, .int .i64 x18)] a ∧ Inv w0 Z w A) ?_ ?_
          ·
            refine CodT.block ?_
            refine (fun a ha => wp_loopN (fun k a w => ∃ (x19 : Int) (x20 : Int), ref03_Rune.l0 x3 a0 k x19 x20 = some r1 ∧ Fr 85 [(0, .string a0), (5, .int .i64 x3), (6, .int .i64 x4), (7, .int .i64 x19), (8, .int .i64 x20)] a ∧ Inv w0 Z w A) ?_ FU a w ⟨x5, 1, h1, ha.keep [0, 5, 6, 7, 8] (by kernel_rfl), hI⟩)
            clear h1 hI
            rintro k a w ⟨x19, x20, h1, ha, hI⟩
            rcases k with _ | k
            · cases h1
            simp only [ref03_Rune.l0] at h1
            refine CodT.of ?_ ha
            refine CodT.seq ?_
            refine CodT.seq ?_
            refine CodT.regionL [0, 1, 2] (by kernel_rfl) ?_
            refine OpsT.pures (r := []) [0, 1, 2] [0, 5, 6, 7, 8, 50] (S' := [(0, .string a0), (5, .int .i64 x3), (6, .int .i64 x4), (7, .int .i64 x19), (8, .int .i64 x20), (50, .bool (decide (x20 < x3)))]) (by kernel_rfl) ?_
            refine OpsT.done ?_
            refine Qn.then ?_
            by_cases hb21 : (decide (x20 < x3)) = true
            · rw [if_pos hb21] at h1
              refine CodT.yes' (b := decide (x20 < x3)) (by kernel_rfl) hb21 ?_
              refine CodT.skip ?_
              refine Qn.then ?_
              refine CodT.seq ?_
              refine CodT.block ?_
              refine CodT.seq ?_
              refine CodT.regionL [0, 1, 2, 3, 4] (by kernel_rfl) ?_
              refine OpsT.pures (r := [2, 3, 4]) [0, 1] [0, 5, 6, 7, 8, 53, 54] (S' := [(0, .string a0), (5, .int .i64 x3), (6, .int .i64 x4), (7, .int .i64 x19), (8, .int .i64 x20), (53, .string a0), (54, .int .i64 x20)]) (by kernel_rfl) ?_
              obtain ⟨hg22, h1⟩ := guardS h1
              refine OpsT.cons (Does.yi (Yl.indexStr (d := 55) (T := 9) (k := .i64) (j := x20) (s := a0) (by kernel_rfl) Go.Proofs.Try.underlying9 hg22.1 hg22.2) hI ?_)
              refine OpsT.pures (r := []) [3, 4] [0, 5, 6, 7, 8, 9] (S' := [(0, .string a0), (5, .int .i64 x3), (6, .int .i64 x4), (7, .int .i64 x19), (8, .int .i64 x20), (9, .int .i64 (wi64 (bt a0 x20)))]) (by kernel_rfl) ?_
              refine OpsT.done ?_
              refine Qn.then ?_
              refine CodT.seq ?_
              obtain ⟨r2, h2, h1⟩ := bindS h1
              refine CodT.meet (fun a w => ∃ (x23 : Bool), x23 = r2 ∧ Fr 85 [(0, .string a0), (5, .int .i64 x3), (6, .int .i64 x4), (7, .int .i64 x19), (8, .int .i64 x20), (9, .int .i64 (wi64 (bt a0 x20))), (62, .bool x23)] a ∧ Inv w0 Z w A) ?_ ?_
              ·
                refine CodT.regionL [0, 1, 2, 3, 4, 5] (by kernel_rfl) ?_
                refine OpsT.pures (r := [3, 4, 5]) [0, 1, 2] [0, 5, 6, 7, 8, 9, 59] (S' := [(0, .string a0), (5, .int .i64 x3), (6, .int .i64 x4), (7, .int .i64 x19), (8, .int .i64 x20), (9, .int .i64 (wi64 (bt a0 x20))), (59, .bool (decide ((wi64 (bt a0 x20)) < 128)))]) (by kernel_rfl) ?_
                by_cases hb24 : (decide ((wi64 (bt a0 x20)) < 128)) = true
                · rw [if_pos hb24] at h2
                  refine OpsT.keep [0, 5, 6, 7, 8, 9, 59] (S' := [(0, .string a0), (5, .int .i64 x3), (6, .int .i64 x4), (7, .int .i64 x19), (8, .int .i64 x20), (9, .int .i64 (wi64 (bt a0 x20))), (59, .bool true)]) (by (try simp only [hb24]); kernel_rfl) ?_
                  refine OpsT.pures (r := []) [3, 4, 5] [0, 5, 6, 7, 8, 9, 62] (S' := [(0, .string a0), (5, .int .i64 x3), (6, .int .i64 x4), (7, .int .i64 x19), (8, .int .i64 x20), (9, .int .i64 (wi64 (bt a0 x20))), (62, .bool true)]) (by kernel_rfl) ?_
                  refine OpsT.done ?_
                  have e := someS h2
                  subst e
                  exact Qn.thenJ fun a ha => ⟨true, rfl, ha.keep [0, 5, 6, 7, 8, 9, 62] (by kernel_rfl), hI⟩
                · rw [if_neg hb24] at h2
                  have hb24 : (decide ((wi64 (bt a0 x20)) < 128)) = false := by simpa using hb24
                  refine OpsT.keep [0, 5, 6, 7, 8, 9, 59] (S' := [(0, .string a0), (5, .int .i64 x3), (6, .int .i64 x4), (7, .int .i64 x19), (8, .int .i64 x20), (9, .int .i64 (wi64 (bt a0 x20))), (59, .bool false)]) (by (try simp only [hb24]); kernel_rfl) ?_
                  refine OpsT.pures (r := []) [3, 4, 5] [0, 5, 6, 7, 8, 9, 62] (S' := [(0, .string a0), (5, .int .i64 x3), (6, .int .i64 x4), (7, .int .i64 x19), (8, .int .i64 x20), (9, .int .i64 (wi64 (bt a0 x20))), (62, .bool (decide ((wi64 (bt a0 x20)) > 191)))]) (by kernel_rfl) ?_
                  refine OpsT.done ?_
                  have e := someS h2
                  subst e
                  exact Qn.thenJ fun a ha => ⟨decide ((wi64 (bt a0 x20)) > 191), rfl, ha.keep [0, 5, 6, 7, 8, 9, 62] (by kernel_rfl), hI⟩
              ·
                rintro a w ⟨x23, rfl, ha, hI⟩
                try dsimp only at h1
                refine CodT.of ?_ ha
                by_cases hb25 : x23 = true
                · rw [if_pos hb25] at h1
                  refine CodT.yes' (b := x23) (by kernel_rfl) hb25 ?_
                  refine CodT.seq ?_
                  refine CodT.regionL [0, 1] (by kernel_rfl) ?_
                  refine OpsT.pures (r := []) [0, 1] [2, 3] (S' := [(2, .int .i64 (-1)), (3, .int .i64 1)]) (by kernel_rfl) ?_
                  refine OpsT.done ?_
                  refine Qn.then ?_
                  refine CodT.ret ?_
                  refine Qn.ret_then ?_
                  refine Qn.block_ret ?_
                  refine Qn.ret_then ?_
                  refine Qn.ret_then ?_
                  refine Qn.block_ret ?_
                  refine Qn.ret_then ?_
                  refine Qn.ret_then ?_
                  have e := someS h1
                  subst e
                  try dsimp only at h0
                  have e := someS h0
                  subst e
                  refine Qn.keep [2, 3] (S' := [(2, .int .i64 (-1)), (3, .int .i64 1)]) (by kernel_rfl) ?_
                  exact post_ret (v := .tuple #[.int .i64 (-1), .int .i64 1]) (fun a ha => RunRes.run (vs := [.int .i64 (-1), .int .i64 1]) (.tmp (t := 2) (by kernel_rfl) (.tmp (t := 3) (by kernel_rfl) .nil)) ha (by kernel_rfl)) ⟨rfl, hI⟩
                · rw [if_neg hb25] at h1
                  refine CodT.no' (b := x23) (by kernel_rfl) (by simpa using hb25) ?_
                  refine CodT.skip ?_
                  refine Qn.then ?_
                  refine CodT.regionL [0, 1, 2, 3, 4, 5] (by kernel_rfl) ?_
                  refine OpsT.pures (r := []) [0, 1, 2, 3, 4, 5] [0, 5, 6, 7, 8] (S' := [(0, .string a0), (5, .int .i64 x3), (6, .int .i64 x4), (7, .int .i64 (wi64 ((wi64 ((wi64 (x19 * 64)) + (wi64 (bt a0 x20)))) - 128))), (8, .int .i64 x20)]) (by kernel_rfl) ?_
                  refine OpsT.done ?_
                  refine Qn.block_normal ?_
                  refine Qn.then ?_
                  refine CodT.regionL [0, 1, 2] (by kernel_rfl) ?_
                  refine OpsT.pures (r := []) [0, 1, 2] [0, 5, 6, 7, 8] (S' := [(0, .string a0), (5, .int .i64 x3), (6, .int .i64 x4), (7, .int .i64 (wi64 ((wi64 ((wi64 (x19 * 64)) + (wi64 (bt a0 x20)))) - 128))), (8, .int .i64 (wi64 (x20 + 1)))]) (by kernel_rfl) ?_
                  refine OpsT.done ?_
                  exact Qn.thenJ fun a ha => ⟨k, Nat.lt_succ_self k, wi64 ((wi64 ((wi64 (x19 * 64)) + (wi64 (bt a0 x20)))) - 128), wi64 (x20 + 1), h1, ha.keep [0, 5, 6, 7, 8] (by kernel_rfl), hI⟩
            · rw [if_neg hb21] at h1
              refine CodT.no' (b := decide (x20 < x3)) (by kernel_rfl) (by simpa using hb21) ?_
              refine CodT.exit ?_
              refine Qn.exit_then ?_
              refine Qn.exit_then ?_
              refine Qn.block ?_
              have e := someS h1
              subst e
              exact Qn.thenJ fun a ha => ⟨x19, rfl, ha.keep [5, 6, 7] (by kernel_rfl), hI⟩
          ·
            rintro a w ⟨x18, rfl, ha, hI⟩
            try dsimp only at h0
            refine Qn.of ?_ ha
            refine Qn.then ?_
            refine CodT.seq ?_
            obtain ⟨r1, h1, h0⟩ := bindS h0
            refine CodT.meet (fun a w => ∃ (x26 : Bool), x26 = r1 ∧ Fr 85 [(5, .int .i64 x3), (7, .int .i64 x18), (82, .bool x26)] a ∧ Inv w0 Z w A) ?_ ?_
            ·
              refine CodT.regionL [0, 1, 2, 3, 4, 5, 6, 7, 8, 9, 10, 11, 12, 13, 14] (by kernel_rfl) ?_
              refine OpsT.pures (r := [4, 5, 6, 7, 8, 9, 10, 11, 12, 13, 14]) [0, 1, 2, 3] [5, 7, 71] (S' := [(5, .int .i64 x3), (7, .int .i64 x18), (71, .bool (decide (x18 < x4)))]) (by kernel_rfl) ?_
              by_cases hb27 : (decide (x18 < x4)) = true
              · rw [if_pos hb27] at h1
                refine OpsT.keep [5, 7, 71] (S' := [(5, .int .i64 x3), (7, .int .i64 x18), (71, .bool true)]) (by (try simp only [hb27]); kernel_rfl) ?_
                refine OpsT.pures (r := []) [4, 5, 6, 7, 8, 9, 10, 11, 12, 13, 14] [5, 7, 82] (S' := [(5, .int .i64 x3), (7, .int .i64 x18), (82, .bool true)]) (by kernel_rfl) ?_
                refine OpsT.done ?_
                have e := someS h1
                subst e
                exact Qn.thenJ fun a ha => ⟨true, rfl, ha.keep [5, 7, 82] (by kernel_rfl), hI⟩
              · rw [if_neg hb27] at h1
                have hb27 : (decide (x18 < x4)) = false := by simpa using hb27
                refine OpsT.keep [5, 7, 71] (S' := [(5, .int .i64 x3), (7, .int .i64 x18), (71, .bool false)]) (by (try simp only [hb27]); kernel_rfl) ?_
                refine OpsT.pures (r := [8, 9, 10, 11, 12, 13, 14]) [4, 5, 6, 7] [5, 7, 75] (S' := [(5, .int .i64 x3), (7, .int .i64 x18), (75, .bool (decide (x18 > 1114111)))]) (by kernel_rfl) ?_
                by_cases hb28 : (decide (x18 > 1114111)) = true
                · rw [if_pos hb28] at h1
                  refine OpsT.keep [5, 7, 75] (S' := [(5, .int .i64 x3), (7, .int .i64 x18), (75, .bool true)]) (by (try simp only [hb28]); kernel_rfl) ?_
                  refine OpsT.pures (r := []) [8, 9, 10, 11, 12, 13, 14] [5, 7, 82] (S' := [(5, .int .i64 x3), (7, .int .i64 x18), (82, .bool true)]) (by kernel_rfl) ?_
                  refine OpsT.done ?_
                  have e := someS h1
                  subst e
                  exact Qn.thenJ fun a ha => ⟨true, rfl, ha.keep [5, 7, 82] (by kernel_rfl), hI⟩
                · rw [if_neg hb28] at h1
                  have hb28 : (decide (x18 > 1114111)) = false := by simpa using hb28
                  refine OpsT.keep [5, 7, 75] (S' := [(5, .int .i64 x3), (7, .int .i64 x18), (75, .bool false)]) (by (try simp only [hb28]); kernel_rfl) ?_
                  refine OpsT.pures (r := [11, 12, 13, 14]) [8, 9, 10] [5, 7, 75, 78] (S' := [(5, .int .i64 x3), (7, .int .i64 x18), (75, .bool false), (78, .bool (decide (x18 ≥ 55296)))]) (by kernel_rfl) ?_
                  by_cases hb29 : (decide (x18 ≥ 55296)) = true
                  · rw [if_pos hb29] at h1
                    refine OpsT.keep [5, 7, 75, 78] (S' := [(5, .int .i64 x3), (7, .int .i64 x18), (75, .bool false), (78, .bool true)]) (by (try simp only [hb29]); kernel_rfl) ?_
                    refine OpsT.pures (r := []) [11, 12, 13, 14] [5, 7, 82] (S' := [(5, .int .i64 x3), (7, .int .i64 x18), (82, .bool (decide (x18 ≤ 57343)))]) (by kernel_rfl) ?_
                    refine OpsT.done ?_
                    have e := someS h1
                    subst e
                    exact Qn.thenJ fun a ha => ⟨decide (x18 ≤ 57343), rfl, ha.keep [5, 7, 82] (by kernel_rfl), hI⟩
                  · rw [if_neg hb29] at h1
                    have hb29 : (decide (x18 ≥ 55296)) = false := by simpa using hb29
                    refine OpsT.keep [5, 7, 75, 78] (S' := [(5, .int .i64 x3), (7, .int .i64 x18), (75, .bool false), (78, .bool false)]) (by (try simp only [hb29]); kernel_rfl) ?_
                    refine OpsT.pures (r := []) [11, 12, 13, 14] [5, 7, 82] (S' := [(5, .int .i64 x3), (7, .int .i64 x18), (82, .bool false)]) (by kernel_rfl) ?_
                    refine OpsT.done ?_
                    have e := someS h1
                    subst e
                    exact Qn.thenJ fun a ha => ⟨false, rfl, ha.keep [5, 7, 82] (by kernel_rfl), hI⟩
            ·
              rintro a w ⟨x26, rfl, ha, hI⟩
              try dsimp only at h0
              refine CodT.of ?_ ha
              by_cases hb30 : x26 = true
              · rw [if_pos hb30] at h0
                refine CodT.yes' (b := x26) (by kernel_rfl) hb30 ?_
                refine CodT.seq ?_
                refine CodT.regionL [0, 1] (by kernel_rfl) ?_
                refine OpsT.pures (r := []) [0, 1] [2, 3] (S' := [(2, .int .i64 (-1)), (3, .int .i64 1)]) (by kernel_rfl) ?_
                refine OpsT.done ?_
                refine Qn.then ?_
                refine CodT.ret ?_
                refine Qn.ret_then ?_
                have e := someS h0
                subst e
                refine Qn.keep [2, 3] (S' := [(2, .int .i64 (-1)), (3, .int .i64 1)]) (by kernel_rfl) ?_
                exact post_ret (v := .tuple #[.int .i64 (-1), .int .i64 1]) (fun a ha => RunRes.run (vs := [.int .i64 (-1), .int .i64 1]) (.tmp (t := 2) (by kernel_rfl) (.tmp (t := 3) (by kernel_rfl) .nil)) ha (by kernel_rfl)) ⟨rfl, hI⟩
              · rw [if_neg hb30] at h0
                refine CodT.no' (b := x26) (by kernel_rfl) (by simpa using hb30) ?_
                refine CodT.skip ?_
                refine Qn.then ?_
                refine CodT.seq ?_
                refine CodT.regionL [0, 1, 2, 3] (by kernel_rfl) ?_
                refine OpsT.pures (r := []) [0, 1, 2, 3] [2, 3] (S' := [(2, .int .i64 x18), (3, .int .i64 x3)]) (by kernel_rfl) ?_
                refine OpsT.done ?_
                refine Qn.then ?_
                refine CodT.ret ?_
                have e := someS h0
                subst e
                refine Qn.keep [2, 3] (S' := [(2, .int .i64 x18), (3, .int .i64 x3)]) (by kernel_rfl) ?_
                exact post_ret (v := .tuple #[.int .i64 x18, .int .i64 x3]) (fun a ha => RunRes.run (vs := [.int .i64 x18, .int .i64 x3]) (.tmp (t := 2) (by kernel_rfl) (.tmp (t := 3) (by kernel_rfl) .nil)) ha (by kernel_rfl)) ⟨rfl, hI⟩
set_option maxRecDepth 100000 in
set_option maxHeartbeats 4000000 in
/-- cenotaph/cenotaphref03.Runes -/
theorem c39 (w0 w : World) (Z : Hp) (A : HP) (hI : Inv w0 Z w A) (a0 : ByteArray) (r : (List Int)) (h0 : ref03_Runes a0 = some r) :
    Calls prog 39 #[.string a0] w (fun e w' => ∃ (A1 : Option Addr) (c1 : Nat), e = .returned (.slice A1 r.length c1) ∧ Inv w0 Z w' (star (ownS 3 (cI .i64) 1 A1 c1 r) A)) := by
  have e4 := calls_intro (R := (fun e w' => ∃ (A1 : Option Addr) (c1 : Nat), e = .returned (.slice A1 r.length c1) ∧ Inv w0 Z w' (star (ownS 3 (cI .i64) 1 A1 c1 r) A))) (w := w) (args := [.string a0]) (fn := Go.Proofs.Try.f39) 33 Go.Proofs.Try.func39 (by rfl) Go.Proofs.Try.ntmps39 (by kernel_rfl)
  refine e4 ?_
  clear e4
  unfold ref03_Runes at h0
  refine CodT.seq ?_
  refine CodT.regionL [0] (by kernel_rfl) ?_
  refine OpsT.pures (r := []) [0] [0] (S' := [(0, .string a0)]) (by kernel_rfl) ?_
  refine OpsT.done ?_
  refine Qn.then ?_
  refine CodT.seq ?_
  refine CodT.regionL [0] (by kernel_rfl) ?_
  refine OpsT.pures (r := []) [0] [0, 3] (S' := [(0, .string a0), (3, .slice none 0 0)]) (by kernel_rfl) ?_
  refine OpsT.done ?_
  refine Qn.then ?_
  refine CodT.seq ?_
  refine CodT.seq ?_
  refine CodT.regionL [0] (by kernel_rfl) ?_
  refine OpsT.pures (r := []) [0] [0, 3, 4] (S' := [(0, .string a0), (3, .slice none 0 0), (4, .int .i64 0)]) (by kernel_rfl) ?_
  refine OpsT.done ?_
  refine Qn.then ?_
  obtain ⟨r1, h1, h0⟩ := bindS h0
  refine CodT.meet1 (fun a w => ∃ (x1 : (List Int)) (A2 : Option Addr) (cp3 : Nat), x1 = r1 ∧ Fr 33 [(3, .slice A2 x1.length cp3)] a ∧ Inv w0 Z w (star (ownS 3 (cI .i64) 1 A2 cp3 x1) A)) ?_ ?_
  ·
    refine CodT.block ?_
    have hI := ownS_nil (α := Int) hI 3 (cI .i64) 1
    refine (fun a ha => wp_loopN (fun k a w => ∃ (x4 : (List Int)) (x7 : Int) (A5 : Option Addr) (cp6 : Nat), ref03_Runes.l0 a0 k x4 x7 = some r1 ∧ Fr 33 [(0, .string a0), (3, .slice A5 x4.length cp6), (4, .int .i64 x7)] a ∧ Inv w0 Z w (star (ownS 3 (cI .i64) 1 A5 cp6 x4) A)) ?_ FU a w ⟨([] : List Int), 0, none, 0, h1, ha.keep [0, 3, 4] (by kernel_rfl), hI⟩)
    clear h1 hI
    rintro k a w ⟨x4, x7, A5, cp6, h1, ha, hI⟩
    rcases k with _ | k
    · cases h1
    simp only [ref03_Runes.l0] at h1
    refine CodT.of ?_ ha
    refine CodT.seq ?_
    refine CodT.seq ?_
    refine CodT.regionL [0, 1, 2, 3] (by kernel_rfl) ?_
    refine OpsT.pures (r := []) [0, 1, 2, 3] [0, 3, 4, 10] (S' := [(0, .string a0), (3, .slice A5 x4.length cp6), (4, .int .i64 x7), (10, .bool (decide (x7 < (a0.size : Int))))]) (by kernel_rfl) ?_
    refine OpsT.done ?_
    refine Qn.then ?_
    by_cases hb8 : (decide (x7 < (a0.size : Int))) = true
    · rw [if_pos hb8] at h1
      refine CodT.yes' (b := decide (x7 < (a0.size : Int))) (by kernel_rfl) hb8 ?_
      refine CodT.skip ?_
      refine Qn.then ?_
      refine CodT.block ?_
      refine CodT.seq ?_
      refine CodT.regionL [0, 1, 2, 3, 4, 5, 6, 7, 8] (by kernel_rfl) ?_
      refine OpsT.pures (r := [2, 3, 4, 5, 6, 7, 8]) [0, 1] [0, 3, 4, 12, 13] (S' := [(0, .string a0), (3, .slice A5 x4.length cp6), (4, .int .i64 x7), (12, .string a0), (13, .int .i64 x7)]) (by kernel_rfl) ?_
      obtain ⟨hg9, h1⟩ := guardS h1
      refine OpsT.cons (Does.yi (Yl.sliceStr10 (d := 14) (T := 9) (s := a0) (lo := x7) (by kernel_rfl) Go.Proofs.Try.underlying9 hg9) hI ?_)
      obtain ⟨⟨y11, y12⟩, hc10, h1⟩ := bindS h1
      try dsimp only at h1
      refine OpsT.cons (Does.call (d := some 15) (n := 43) (vs := [.string (sx a0 x7 (a0.size : Int))]) (by kernel_rfl) en43 (c43 w0 w _ _ hI (sx a0 x7 (a0.size : Int)) _ hc10) ?_)
      rintro e w ⟨rfl, hI⟩
      refine ⟨_, rfl, ?_⟩
      refine OpsT.pures (r := []) [4, 5, 6, 7, 8] [0, 3, 4, 5, 6] (S' := [(0, .string a0), (3, .slice A5 x4.length cp6), (4, .int .i64 x7), (5, .int .i64 y11), (6, .int .i64 y12)]) (by kernel_rfl) ?_
      refine OpsT.done ?_
      refine Qn.then ?_
      obtain ⟨r2, h2, h1⟩ := bindS h1
      refine CodT.meet (fun a w => ∃ (x13 : Int), x13 = r2 ∧ Fr 33 [(0, .string a0), (3, .slice A5 x4.length cp6), (4, .int .i64 x7), (5, .int .i64 x13), (6, .int .i64 y12)] a ∧ Inv w0 Z w (star (ownS 3 (cI .i64) 1 A5 cp6 x4) A)) ?_ ?_
      ·
        refine CodT.seq ?_
        refine CodT.regionL [0, 1] (by kernel_rfl) ?_
        refine OpsT.pures (r := []) [0, 1] [0, 3, 4, 5, 6, 19] (S' := [(0, .string a0), (3, .slice A5 x4.length cp6), (4, .int .i64 x7), (5, .int .i64 y11), (6, .int .i64 y12), (19, .bool (decide (y11 < 0)))]) (by kernel_rfl) ?_
        refine OpsT.done ?_
        refine Qn.then ?_
        by_cases hb14 : (decide (y11 < 0)) = true
        · rw [if_pos hb14] at h2
          refine CodT.yes' (b := decide (y11 < 0)) (by kernel_rfl) hb14 ?_
          refine CodT.regionL [0, 1, 2, 3, 4, 5] (by kernel_rfl) ?_
          refine OpsT.pures (r := [2, 3, 4, 5]) [0, 1] [0, 3, 4, 6, 20, 21] (S' := [(0, .string a0), (3, .slice A5 x4.length cp6), (4, .int .i64 x7), (6, .int .i64 y12), (20, .string a0), (21, .int .i64 x7)]) (by kernel_rfl) ?_
          obtain ⟨hg15, h2⟩ := guardS h2
          refine OpsT.cons (Does.yi (Yl.indexStr (d := 22) (T := 9) (k := .i64) (j := x7) (s := a0) (by kernel_rfl) Go.Proofs.Try.underlying9 hg15.1 hg15.2) hI ?_)
          refine OpsT.pures (r := []) [3, 4, 5] [0, 3, 4, 5, 6] (S' := [(0, .string a0), (3, .slice A5 x4.length cp6), (4, .int .i64 x7), (5, .int .i64 (wi64 (1114112 + (wi64 (bt a0 x7))))), (6, .int .i64 y12)]) (by kernel_rfl) ?_
          refine OpsT.done ?_
          have e := someS h2
          subst e
          exact Qn.thenJ fun a ha => ⟨wi64 (1114112 + (wi64 (bt a0 x7))), rfl, ha.keep [0, 3, 4, 5, 6] (by kernel_rfl), hI⟩
        · rw [if_neg hb14] at h2
          refine CodT.no' (b := decide (y11 < 0)) (by kernel_rfl) (by simpa using hb14) ?_
          refine CodT.skip ?_
          have e := someS h2
          subst e
          exact Qn.thenJ fun a ha => ⟨y11, rfl, ha.keep [0, 3, 4, 5, 6] (by kernel_rfl), hI⟩
      ·
        rintro a w ⟨x13, rfl, ha, hI⟩
        try dsimp only at h1
        refine CodT.of ?_ ha
        refine CodT.seq ?_
        refine CodT.regionL [0, 1, 2, 3, 4] (by kernel_rfl) ?_
        refine OpsT.pures (r := [2, 3, 4]) [0, 1] [0, 4, 6, 25, 26] (S' := [(0, .string a0), (4, .int .i64 x7), (6, .int .i64 y12), (25, .slice A5 x4.length cp6), (26, .int .i64 x13)]) (by kernel_rfl) ?_
        refine OpsT.cons (Does.buildSlice (en := (cI .i64)) (d := 27) (n := 1) (T := 38) (ps := [(0, .int .i64 x13)]) ([x13] : List Int) (by kernel_rfl) Go.Proofs.Try.underlying38 ty3 (by kernel_rfl) (by kernel_rfl) (by kernel_rfl) (by kernel_rfl) (len_all (fun _ => rfl)) hI ?_)
        intro b16 w hI
        obtain ⟨hg17, h1⟩ := guardS h1
        have hI := hI.mono (pick2 _ _ _)
        refine OpsT.cons (Does.append (d := 28) (t := 38) (tx := 38) (ty := 38) (ys := x4) (zs := ([x13] : List Int)) (x := .slice (some ⟨b16, 0, none⟩) (([x13] : List Int).length) 1) (by kernel_rfl) Go.Proofs.Try.underlying38 ty3 (by kernel_rfl) hI (src_own Go.Proofs.Try.underlying38 (hI.mono (pick2 _ _ _)) (one_flat _ (fun _ => rfl))) (ownS_facts (hI.mono (pick2 _ _ _))).2.2 (by unfold LIM at hg17; omega) hg17 ?_)
        intro A18 cp19 w hI
        refine OpsT.pures (r := []) [4] [0, 3, 4, 6] (S' := [(0, .string a0), (3, .slice A18 ((x4 ++ ([x13] : List Int)).length) cp19), (4, .int .i64 x7), (6, .int .i64 y12)]) (by kernel_rfl) ?_
        refine OpsT.done ?_
        refine Qn.then ?_
        refine CodT.regionL [0, 1, 2, 3] (by kernel_rfl) ?_
        refine OpsT.pures (r := []) [0, 1, 2, 3] [0, 3, 4] (S' := [(0, .string a0), (3, .slice A18 ((x4 ++ ([x13] : List Int)).length) cp19), (4, .int .i64 (wi64 (x7 + y12)))]) (by kernel_rfl) ?_
        refine OpsT.done ?_
        refine Qn.block_normal ?_
        have hI := hI.mono (pick2 _ _ _)
        have hI := hI.drop
        exact Qn.thenJ fun a ha => ⟨k, Nat.lt_succ_self k, x4 ++ ([x13] : List Int), wi64 (x7 + y12), A18, cp19, h1, ha.keep [0, 3, 4] (by kernel_rfl), hI⟩
    · rw [if_neg hb8] at h1
      refine CodT.no' (b := decide (x7 < (a0.size : Int))) (by kernel_rfl) (by simpa using hb8) ?_
      refine CodT.exit ?_
      refine Qn.exit_then ?_
      refine Qn.exit_then ?_
      refine Qn.block ?_
      have e := someS h1
      subst e
      exact Qn.thenJ fun a ha => ⟨x4, A5, cp6, rfl, ha.keep [3] (by kernel_rfl), hI⟩
  ·
    rintro a w ⟨x1, A2, cp3, rfl, ha, hI⟩
    try dsimp only at h0
    refine Qn.of ?_ ha
    refine Qn.then ?_
    refine CodT.seq ?_
    refine CodT.regionL [0, 1] (by kernel_rfl) ?_
    refine OpsT.pures (r := []) [0, 1] [2] (S' := [(2, .slice A2 x1.length cp3)]) (by kernel_rfl) ?_
    refine OpsT.done ?_
    refine Qn.then ?_
    refine CodT.ret ?_
    have e := someS h0
    subst e
    refine Qn.keep [2] (S' := [(2, .slice A2 x1.length cp3)]) (by kernel_rfl) ?_
    exact post_ret (v := .slice A2 x1.length cp3) (fun a ha => RunRes.run (vs := [.slice A2 x1.length cp3]) (.tmp (t := 2) (by kernel_rfl) .nil) ha (by kernel_rfl)) ⟨A2, cp3, rfl, hI⟩
set_option maxRecDepth 100000 in
set_option maxHeartbeats 4000000 in
/-- cenotaph/cenotaphref03.Valid -/
theorem c25 (w0 w : World) (Z : Hp) (A : HP) (hI : Inv w0 Z w A) (a0 : ByteArray) (r : Bool) (h0 : ref03_Valid a0 = some r) :
    Calls prog 25 #[.string a0] w (fun e w' => e = .returned (.bool r) ∧ Inv w0 Z w' A) := by
  have e4 := calls_intro (R := (fun e w' => e = .returned (.bool r) ∧ Inv w0 Z w' A)) (w := w) (args := [.string a0]) (fn := Go.Proofs.Try.f25) 63 Go.Proofs.Try.func25 (by rfl) Go.Proofs.Try.ntmps25 (by kernel_rfl)
  refine e4 ?_
  clear e4
  unfold ref03_Valid at h0
  refine CodT.seq ?_
  refine CodT.regionL [0] (by kernel_rfl) ?_
  refine OpsT.pures (r := []) [0] [0] (S' := [(0, .string a0)]) (by kernel_rfl) ?_
  refine OpsT.done ?_
  refine Qn.then ?_
  refine CodT.seq ?_
  refine CodT.regionL [0, 1, 2] (by kernel_rfl) ?_
  refine OpsT.pures (r := [1, 2]) [0] [6] (S' := [(6, .string a0)]) (by kernel_rfl) ?_
  obtain ⟨y2, hc1, h0⟩ := bindS h0
  try dsimp only at h0
  refine OpsT.cons (Does.call (d := some 7) (n := 39) (vs := [.string a0]) (by kernel_rfl) en39 (c39 w0 w _ _ hI a0 _ hc1) ?_)
  rintro e w ⟨A3, cp4, rfl, hI⟩
  refine ⟨_, rfl, ?_⟩
  refine OpsT.pures (r := []) [2] [3] (S' := [(3, .slice A3 y2.length cp4)]) (by kernel_rfl) ?_
  refine OpsT.done ?_
  refine Qn.then ?_
  refine CodT.seq ?_
  obtain ⟨r1, h1, h0⟩ := bindS h0
  refine CodT.meet (fun a w => ∃ (x5 : Bool), x5 = r1 ∧ Fr 63 [(3, .slice A3 y2.length cp4), (30, .bool x5)] a ∧ Inv w0 Z w (star (ownS 3 (cI .i64) 1 A3 cp4 y2) A)) ?_ ?_
  ·
    refine CodT.regionL [0, 1, 2, 3, 4, 5, 6, 7, 8, 9, 10, 11, 12, 13, 14, 15, 16, 17, 18, 19, 20, 21, 22] (by kernel_rfl) ?_
    refine OpsT.pures (r := [4, 5, 6, 7, 8, 9, 10, 11, 12, 13, 14, 15, 16, 17, 18, 19, 20, 21, 22]) [0, 1, 2, 3] [3, 11] (S' := [(3, .slice A3 y2.length cp4), (11, .bool (decide ((y2.length : Int) < 1)))]) (by kernel_rfl) ?_
    by_cases hb6 : (decide ((y2.length : Int) < 1)) = true
    · rw [if_pos hb6] at h1
      refine OpsT.keep [3, 11] (S' := [(3, .slice A3 y2.length cp4), (11, .bool true)]) (by (try simp only [hb6]); kernel_rfl) ?_
      refine OpsT.pures (r := []) [4, 5, 6, 7, 8, 9, 10, 11, 12, 13, 14, 15, 16, 17, 18, 19, 20, 21, 22] [3, 30] (S' := [(3, .slice A3 y2.length cp4), (30, .bool true)]) (by kernel_rfl) ?_
      refine OpsT.done ?_
      have e := someS h1
      subst e
      exact Qn.thenJ fun a ha => ⟨true, rfl, ha.keep [3, 30] (by kernel_rfl), hI⟩
    · rw [if_neg hb6] at h1
      have hb6 : (decide ((y2.length : Int) < 1)) = false := by simpa using hb6
      refine OpsT.keep [3, 11] (S' := [(3, .slice A3 y2.length cp4), (11, .bool false)]) (by (try simp only [hb6]); kernel_rfl) ?_
      refine OpsT.pures (r := [9, 10, 11, 12, 13, 14, 15, 16, 17, 18, 19, 20, 21, 22]) [4, 5, 6, 7, 8] [3, 16] (S' := [(3, .slice A3 y2.length cp4), (16, .bool (decide ((y2.length : Int) > 24)))]) (by kernel_rfl) ?_
      by_cases hb7 : (decide ((y2.length : Int) > 24)) = true
      · rw [if_pos hb7] at h1
        refine OpsT.keep [3, 16] (S' := [(3, .slice A3 y2.length cp4), (16, .bool true)]) (by (try simp only [hb7]); kernel_rfl) ?_
        refine OpsT.pures (r := []) [9, 10, 11, 12, 13, 14, 15, 16, 17, 18, 19, 20, 21, 22] [3, 30] (S' := [(3, .slice A3 y2.length cp4), (30, .bool true)]) (by kernel_rfl) ?_
        refine OpsT.done ?_
        have e := someS h1
        subst e
        exact Qn.thenJ fun a ha => ⟨true, rfl, ha.keep [3, 30] (by kernel_rfl), hI⟩
      · rw [if_neg hb7] at h1
        have hb7 : (decide ((y2.length : Int) > 24)) = false := by simpa using hb7
        refine OpsT.keep [3, 16] (S' := [(3, .slice A3 y2.length cp4), (16, .bool false)]) (by (try simp only [hb7]); kernel_rfl) ?_
        refine OpsT.pures (r := [10, 11, 12, 13, 14, 15, 16, 17, 18, 19, 20, 21, 22]) [9] [3, 16, 17] (S' := [(3, .slice A3 y2.length cp4), (16, .bool false), (17, .slice A3 y2.length cp4)]) (by kernel_rfl) ?_
        obtain ⟨hg8, h1⟩ := guardS h1
        obtain ⟨g9, hA10, hr11, hl12⟩ := ownS_get hI hg8.1 hg8.2
        refine OpsT.cons (Does.yi (Yl.indexSlice (d := 18) (T := 38) (cc := cp4) (k := .i64) (j := 0) (g := g9) (o := 0) (by kernel_rfl) Go.Proofs.Try.underlying38 ty3 hA10 hg8.1 hg8.2) hI ?_)
        refine OpsT.cons (Does.yi (Yl.load (d := 19) (T := 3) (v := .int .i64 (gt y2 0)) (by kernel_rfl) (ldR ty3 (v := .int .i64 (gt y2 0)) 0 (fun w hC => hr11 w0 w _ hC) (by kernel_rfl))) hI ?_)
        refine OpsT.pures (r := [15, 16, 17, 18, 19, 20, 21, 22]) [12, 13, 14] [3, 22] (S' := [(3, .slice A3 y2.length cp4), (22, .bool ((gt y2 0) == 32))]) (by kernel_rfl) ?_
        by_cases hb13 : ((gt y2 0) == 32) = true
        · rw [if_pos hb13] at h1
          refine OpsT.keep [3, 22] (S' := [(3, .slice A3 y2.length cp4), (22, .bool true)]) (by (try simp only [hb13]); kernel_rfl) ?_
          refine OpsT.pures (r := []) [15, 16, 17, 18, 19, 20, 21, 22] [3, 30] (S' := [(3, .slice A3 y2.length cp4), (30, .bool true)]) (by kernel_rfl) ?_
          refine OpsT.done ?_
          have e := someS h1
          subst e
          exact Qn.thenJ fun a ha => ⟨true, rfl, ha.keep [3, 30] (by kernel_rfl), hI⟩
        · rw [if_neg hb13] at h1
          have hb13 : ((gt y2 0) == 32) = false := by simpa using hb13
          refine OpsT.keep [3, 22] (S' := [(3, .slice A3 y2.length cp4), (22, .bool false)]) (by (try simp only [hb13]); kernel_rfl) ?_
          refine OpsT.pures (r := [19, 20, 21, 22]) [15, 16, 17, 18] [3, 22, 23, 26] (S' := [(3, .slice A3 y2.length cp4), (22, .bool false), (23, .slice A3 y2.length cp4), (26, .int .i64 (wi64 ((y2.length : Int) - 1)))]) (by kernel_rfl) ?_
          obtain ⟨hg14, h1⟩ := guardS h1
          obtain ⟨g15, hA16, hr17, hl18⟩ := ownS_get hI hg14.1 hg14.2
          refine OpsT.cons (Does.yi (Yl.indexSlice (d := 27) (T := 38) (cc := cp4) (k := .i64) (j := wi64 ((y2.length : Int) - 1)) (g := g15) (o := 0) (by kernel_rfl) Go.Proofs.Try.underlying38 ty3 hA16 hg14.1 hg14.2) hI ?_)
          refine OpsT.cons (Does.yi (Yl.load (d := 28) (T := 3) (v := .int .i64 (gt y2 (wi64 ((y2.length : Int) - 1)))) (by kernel_rfl) (ldR ty3 (v := .int .i64 (gt y2 (wi64 ((y2.length : Int) - 1)))) 0 (fun w hC => hr17 w0 w _ hC) (by kernel_rfl))) hI ?_)
          refine OpsT.pures (r := []) [21, 22] [3, 30] (S' := [(3, .slice A3 y2.length cp4), (30, .bool ((gt y2 (wi64 ((y2.length : Int) - 1))) == 32))]) (by kernel_rfl) ?_
          refine OpsT.done ?_
          have e := someS h1
          subst e
          exact Qn.thenJ fun a ha => ⟨(gt y2 (wi64 ((y2.length : Int) - 1))) == 32, rfl, ha.keep [3, 30] (by kernel_rfl), hI⟩
  ·
    rintro a w ⟨x5, rfl, ha, hI⟩
    try dsimp only at h0
    refine CodT.of ?_ ha
    by_cases hb19 : x5 = true
    · rw [if_pos hb19] at h0
      refine CodT.yes' (b := x5) (by kernel_rfl) hb19 ?_
      refine CodT.seq ?_
      refine CodT.regionL [0] (by kernel_rfl) ?_
      refine OpsT.pures (r := []) [0] [2] (S' := [(2, .bool false)]) (by kernel_rfl) ?_
      refine OpsT.done ?_
      refine Qn.then ?_
      refine CodT.ret ?_
      refine Qn.ret_then ?_
      have hI := hI.drop
      have e := someS h0
      subst e
      refine Qn.keep [2] (S' := [(2, .bool false)]) (by kernel_rfl) ?_
      exact post_ret (v := .bool false) (fun a ha => RunRes.run (vs := [.bool false]) (.tmp (t := 2) (by kernel_rfl) .nil) ha (by kernel_rfl)) ⟨rfl, hI⟩
    · rw [if_neg hb19] at h0
      refine CodT.no' (b := x5) (by kernel_rfl) (by simpa using hb19) ?_
      refine CodT.skip ?_
      refine Qn.then ?_
      refine CodT.seq ?_
      refine CodT.seq ?_
      refine CodT.regionL [0] (by kernel_rfl) ?_
      refine OpsT.pures (r := []) [0] [3, 4] (S' := [(3, .slice A3 y2.length cp4), (4, .int .i64 0)]) (by kernel_rfl) ?_
      refine OpsT.done ?_
      refine Qn.then ?_
      obtain ⟨r1, h1, h0⟩ := bindS h0
      refine CodT.meet1 (fun a w => .inr () = r1 ∧ Fr 63 [] a ∧ Inv w0 Z w A) ?_ ?_
      ·
        refine CodT.block ?_
        refine (fun a ha => wp_loopN (fun k a w => ∃ (x20 : Int), ref03_Valid.l0 y2 k x20 = some r1 ∧ Fr 63 [(3, .slice A3 y2.length cp4), (4, .int .i64 x20)] a ∧ Inv w0 Z w (star (ownS 3 (cI .i64) 1 A3 cp4 y2) A)) ?_ FU a w ⟨0, h1, ha.keep [3, 4] (by kernel_rfl), hI⟩)
        clear h1 hI
        rintro k a w ⟨x20, h1, ha, hI⟩
        rcases k with _ | k
        · cases h1
        simp only [ref03_Valid.l0] at h1
        refine CodT.of ?_ ha
        refine CodT.seq ?_
        refine CodT.seq ?_
        refine CodT.regionL [0, 1, 2, 3] (by kernel_rfl) ?_
        refine OpsT.pures (r := []) [0, 1, 2, 3] [3, 4, 34] (S' := [(3, .slice A3 y2.length cp4), (4, .int .i64 x20), (34, .bool (decide (x20 < (y2.length : Int))))]) (by kernel_rfl) ?_
        refine OpsT.done ?_
        refine Qn.then ?_
        by_cases hb21 : (decide (x20 < (y2.length : Int))) = true
        · rw [if_pos hb21] at h1
          refine CodT.yes' (b := decide (x20 < (y2.length : Int))) (by kernel_rfl) hb21 ?_
          refine CodT.skip ?_
          refine Qn.then ?_
          refine CodT.seq ?_
          refine CodT.block ?_
          refine CodT.seq ?_
          refine CodT.regionL [0, 1, 2, 3, 4] (by kernel_rfl) ?_
          refine OpsT.pures (r := [2, 3, 4]) [0, 1] [3, 4, 37, 38] (S' := [(3, .slice A3 y2.length cp4), (4, .int .i64 x20), (37, .slice A3 y2.length cp4), (38, .int .i64 x20)]) (by kernel_rfl) ?_
          obtain ⟨hg22, h1⟩ := guardS h1
          obtain ⟨g23, hA24, hr25, hl26⟩ := ownS_get hI hg22.1 hg22.2
          refine OpsT.cons (Does.yi (Yl.indexSlice (d := 39) (T := 38) (cc := cp4) (k := .i64) (j := x20) (g := g23) (o := 0) (by kernel_rfl) Go.Proofs.Try.underlying38 ty3 hA24 hg22.1 hg22.2) hI ?_)
          refine OpsT.cons (Does.yi (Yl.load (d := 40) (T := 3) (v := .int .i64 (gt y2 x20)) (by kernel_rfl) (ldR ty3 (v := .int .i64 (gt y2 x20)) 0 (fun w hC => hr25 w0 w _ hC) (by kernel_rfl))) hI ?_)
          refine OpsT.pures (r := []) [4] [3, 4, 5] (S' := [(3, .slice A3 y2.length cp4), (4, .int .i64 x20), (5, .int .i64 (gt y2 x20))]) (by kernel_rfl) ?_
          refine OpsT.done ?_
          refine Qn.then ?_
          obtain ⟨r2, h2, h1⟩ := bindS h1
          refine CodT.meet (fun a w => ∃ (x27 : Bool), x27 = r2 ∧ Fr 63 [(3, .slice A3 y2.length cp4), (4, .int .i64 x20), (62, .bool x27)] a ∧ Inv w0 Z w (star (ownS 3 (cI .i64) 1 A3 cp4 y2) A)) ?_ ?_
          ·
            refine CodT.regionL [0, 1, 2, 3, 4, 5, 6, 7, 8, 9, 10, 11, 12, 13, 14, 15, 16, 17, 18, 19, 20, 21] (by kernel_rfl) ?_
            refine OpsT.pures (r := [3, 4, 5, 6, 7, 8, 9, 10, 11, 12, 13, 14, 15, 16, 17, 18, 19, 20, 21]) [0, 1, 2] [3, 4, 5, 43] (S' := [(3, .slice A3 y2.length cp4), (4, .int .i64 x20), (5, .int .i64 (gt y2 x20)), (43, .bool (decide ((gt y2 x20) < 32)))]) (by kernel_rfl) ?_
            by_cases hb28 : (decide ((gt y2 x20) < 32)) = true
            · rw [if_pos hb28] at h2
              refine OpsT.keep [3, 4, 5, 43] (S' := [(3, .slice A3 y2.length cp4), (4, .int .i64 x20), (5, .int .i64 (gt y2 x20)), (43, .bool true)]) (by (try simp only [hb28]); kernel_rfl) ?_
              refine OpsT.pures (r := []) [3, 4, 5, 6, 7, 8, 9, 10, 11, 12, 13, 14, 15, 16, 17, 18, 19, 20, 21] [3, 4, 62] (S' := [(3, .slice A3 y2.length cp4), (4, .int .i64 x20), (62, .bool true)]) (by kernel_rfl) ?_
              refine OpsT.done ?_
              have e := someS h2
              subst e
              exact Qn.thenJ fun a ha => ⟨true, rfl, ha.keep [3, 4, 62] (by kernel_rfl), hI⟩
            · rw [if_neg hb28] at h2
              have hb28 : (decide ((gt y2 x20) < 32)) = false := by simpa using hb28
              refine OpsT.keep [3, 4, 5, 43] (S' := [(3, .slice A3 y2.length cp4), (4, .int .i64 x20), (5, .int .i64 (gt y2 x20)), (43, .bool false)]) (by (try simp only [hb28]); kernel_rfl) ?_
              refine OpsT.pures (r := [7, 8, 9, 10, 11, 12, 13, 14, 15, 16, 17, 18, 19, 20, 21]) [3, 4, 5, 6] [3, 4, 5, 47] (S' := [(3, .slice A3 y2.length cp4), (4, .int .i64 x20), (5, .int .i64 (gt y2 x20)), (47, .bool ((gt y2 x20) == 47))]) (by kernel_rfl) ?_
              by_cases hb29 : ((gt y2 x20) == 47) = true
              · rw [if_pos hb29] at h2
                refine OpsT.keep [3, 4, 5, 47] (S' := [(3, .slice A3 y2.length cp4), (4, .int .i64 x20), (5, .int .i64 (gt y2 x20)), (47, .bool true)]) (by (try simp only [hb29]); kernel_rfl) ?_
                refine OpsT.pures (r := []) [7, 8, 9, 10, 11, 12, 13, 14, 15, 16, 17, 18, 19, 20, 21] [3, 4, 62] (S' := [(3, .slice A3 y2.length cp4), (4, .int .i64 x20), (62, .bool true)]) (by kernel_rfl) ?_
                refine OpsT.done ?_
                have e := someS h2
                subst e
                exact Qn.thenJ fun a ha => ⟨true, rfl, ha.keep [3, 4, 62] (by kernel_rfl), hI⟩
              · rw [if_neg hb29] at h2
                have hb29 : ((gt y2 x20) == 47) = false := by simpa using hb29
                refine OpsT.keep [3, 4, 5, 47] (S' := [(3, .slice A3 y2.length cp4), (4, .int .i64 x20), (5, .int .i64 (gt y2 x20)), (47, .bool false)]) (by (try simp only [hb29]); kernel_rfl) ?_
                refine OpsT.pures (r := [10, 11, 12, 13, 14, 15, 16, 17, 18, 19, 20, 21]) [7, 8, 9] [3, 4, 5, 47, 50] (S' := [(3, .slice A3 y2.length cp4), (4, .int .i64 x20), (5, .int .i64 (gt y2 x20)), (47, .bool false), (50, .bool (decide ((gt y2 x20) ≥ 127)))]) (by kernel_rfl) ?_
                by_cases hb30 : (decide ((gt y2 x20) ≥ 127)) = true
                · rw [if_pos hb30] at h2
                  refine OpsT.keep [3, 4, 5, 47, 50] (S' := [(3, .slice A3 y2.length cp4), (4, .int .i64 x20), (5, .int .i64 (gt y2 x20)), (47, .bool false), (50, .bool true)]) (by (try simp only [hb30]); kernel_rfl) ?_
                  refine OpsT.pures (r := [15, 16, 17, 18, 19, 20, 21]) [10, 11, 12, 13, 14] [3, 4, 5, 55] (S' := [(3, .slice A3 y2.length cp4), (4, .int .i64 x20), (5, .int .i64 (gt y2 x20)), (55, .bool (decide ((gt y2 x20) ≤ 159)))]) (by kernel_rfl) ?_
                  by_cases hb31 : (decide ((gt y2 x20) ≤ 159)) = true
                  · rw [if_pos hb31] at h2
                    refine OpsT.keep [3, 4, 5, 55] (S' := [(3, .slice A3 y2.length cp4), (4, .int .i64 x20), (5, .int .i64 (gt y2 x20)), (55, .bool true)]) (by (try simp only [hb31]); kernel_rfl) ?_
                    refine OpsT.pures (r := []) [15, 16, 17, 18, 19, 20, 21] [3, 4, 62] (S' := [(3, .slice A3 y2.length cp4), (4, .int .i64 x20), (62, .bool true)]) (by kernel_rfl) ?_
                    refine OpsT.done ?_
                    have e := someS h2
                    subst e
                    exact Qn.thenJ fun a ha => ⟨true, rfl, ha.keep [3, 4, 62] (by kernel_rfl), hI⟩
                  · rw [if_neg hb31] at h2
                    have hb31 : (decide ((gt y2 x20) ≤ 159)) = false := by simpa using hb31
                    refine OpsT.keep [3, 4, 5, 55] (S' := [(3, .slice A3 y2.length cp4), (4, .int .i64 x20), (5, .int .i64 (gt y2 x20)), (55, .bool false)]) (by (try simp only [hb31]); kernel_rfl) ?_
                    refine OpsT.pures (r := [19, 20, 21]) [15, 16, 17, 18] [3, 4, 5, 59] (S' := [(3, .slice A3 y2.length cp4), (4, .int .i64 x20), (5, .int .i64 (gt y2 x20)), (59, .bool ((gt y2 x20) == 65533))]) (by kernel_rfl) ?_
                    by_cases hb32 : ((gt y2 x20) == 65533) = true
                    · rw [if_pos hb32] at h2
                      refine OpsT.keep [3, 4, 5, 59] (S' := [(3, .slice A3 y2.length cp4), (4, .int .i64 x20), (5, .int .i64 (gt y2 x20)), (59, .bool true)]) (by (try simp only [hb32]); kernel_rfl) ?_
                      refine OpsT.pures (r := []) [19, 20, 21] [3, 4, 62] (S' := [(3, .slice A3 y2.length cp4), (4, .int .i64 x20), (62, .bool true)]) (by kernel_rfl) ?_
                      refine OpsT.done ?_
                      have e := someS h2
                      subst e
                      exact Qn.thenJ fun a ha => ⟨true, rfl, ha.keep [3, 4, 62] (by kernel_rfl), hI⟩
                    · rw [if_neg hb32] at h2
                      have hb32 : ((gt y2 x20) == 65533) = false := by simpa using hb32
                      refine OpsT.keep [3, 4, 5, 59] (S' := [(3, .slice A3 y2.length cp4), (4, .int .i64 x20), (5, .int .i64 (gt y2 x20)), (59, .bool false)]) (by (try simp only [hb32]); kernel_rfl) ?_
                      refine OpsT.pures (r := []) [19, 20, 21] [3, 4, 62] (S' := [(3, .slice A3 y2.length cp4), (4, .int .i64 x20), (62, .bool (decide ((gt y2 x20) ≥ 1114112)))]) (by kernel_rfl) ?_
                      refine OpsT.done ?_
                      have e := someS h2
                      subst e
                      exact Qn.thenJ fun a ha => ⟨decide ((gt y2 x20) ≥ 1114112), rfl, ha.keep [3, 4, 62] (by kernel_rfl), hI⟩
                · rw [if_neg hb30] at h2
                  have hb30 : (decide ((gt y2 x20) ≥ 127)) = false := by simpa using hb30
                  refine OpsT.keep [3, 4, 5, 47, 50] (S' := [(3, .slice A3 y2.length cp4), (4, .int .i64 x20), (5, .int .i64 (gt y2 x20)), (47, .bool false), (50, .bool false)]) (by (try simp only [hb30]); kernel_rfl) ?_
                  refine OpsT.pures (r := [19, 20, 21]) [10, 11, 12, 13, 14, 15, 16, 17, 18] [3, 4, 5, 59] (S' := [(3, .slice A3 y2.length cp4), (4, .int .i64 x20), (5, .int .i64 (gt y2 x20)), (59, .bool ((gt y2 x20) == 65533))]) (by kernel_rfl) ?_
                  by_cases hb33 : ((gt y2 x20) == 65533) = true
                  · rw [if_pos hb33] at h2
                    refine OpsT.keep [3, 4, 5, 59] (S' := [(3, .slice A3 y2.length cp4), (4, .int .i64 x20), (5, .int .i64 (gt y2 x20)), (59, .bool true)]) (by (try simp only [hb33]); kernel_rfl) ?_
                    refine OpsT.pures (r := []) [19, 20, 21] [3, 4, 62] (S' := [(3, .slice A3 y2.length cp4), (4, .int .i64 x20), (62, .bool true)]) (by kernel_rfl) ?_
                    refine OpsT.done ?_
                    have e := someS h2
                    subst e
                    exact Qn.thenJ fun a ha => ⟨true, rfl, ha.keep [3, 4, 62] (by kernel_rfl), hI⟩
                  · rw [if_neg hb33] at h2
                    have hb33 : ((gt y2 x20) == 65533) = false := by simpa using hb33
                    refine OpsT.keep [3, 4, 5, 59] (S' := [(3, .slice A3 y2.length cp4), (4, .int .i64 x20), (5, .int .i64 (gt y2 x20)), (59, .bool false)]) (by (try simp only [hb33]); kernel_rfl) ?_
                    refine OpsT.pures (r := []) [19, 20, 21] [3, 4, 62] (S' := [(3, .slice A3 y2.length cp4), (4, .int .i64 x20), (62, .bool (decide ((gt y2 x20) ≥ 1114112)))]) (by kernel_rfl) ?_
                    refine OpsT.done ?_
                    have e := someS h2
                    subst e
                    exact Qn.thenJ fun a ha => ⟨decide ((gt y2 x20) ≥ 1114112), rfl, ha.keep [3, 4, 62] (by kernel_rfl), hI⟩
          ·
            rintro a w ⟨x27, rfl, ha, hI⟩
            try dsimp only at h1
            refine CodT.of ?_ ha
            by_cases hb34 : x27 = true
            · rw [if_pos hb34] at h1
              refine CodT.yes' (b := x27) (by kernel_rfl) hb34 ?_
              refine CodT.seq ?_
              refine CodT.regionL [0] (by kernel_rfl) ?_
              refine OpsT.pures (r := []) [0] [2] (S' := [(2, .bool false)]) (by kernel_rfl) ?_
              refine OpsT.done ?_
              refine Qn.then ?_
              refine CodT.ret ?_
              refine Qn.block_ret ?_
              refine Qn.ret_then ?_
              refine Qn.ret_then ?_
              refine Qn.block_ret ?_
              refine Qn.ret_then ?_
              refine Qn.ret_then ?_
              have hI := hI.drop
              have e := someS h1
              subst e
              try dsimp only at h0
              have e := someS h0
              subst e
              refine Qn.keep [2] (S' := [(2, .bool false)]) (by kernel_rfl) ?_
              exact post_ret (v := .bool false) (fun a ha => RunRes.run (vs := [.bool false]) (.tmp (t := 2) (by kernel_rfl) .nil) ha (by kernel_rfl)) ⟨rfl, hI⟩
            · rw [if_neg hb34] at h1
              refine CodT.no' (b := x27) (by kernel_rfl) (by simpa using hb34) ?_
              refine CodT.skip ?_
              refine Qn.block_normal ?_
              refine Qn.then ?_
              refine CodT.regionL [0, 1, 2] (by kernel_rfl) ?_
              refine OpsT.pures (r := []) [0, 1, 2] [3, 4] (S' := [(3, .slice A3 y2.length cp4), (4, .int .i64 (wi64 (x20 + 1)))]) (by kernel_rfl) ?_
              refine OpsT.done ?_
              exact Qn.thenJ fun a ha => ⟨k, Nat.lt_succ_self k, wi64 (x20 + 1), h1, ha.keep [3, 4] (by kernel_rfl), hI⟩
        · rw [if_neg hb21] at h1
          refine CodT.no' (b := decide (x20 < (y2.length : Int))) (by kernel_rfl) (by simpa using hb21) ?_
          refine CodT.exit ?_
          refine Qn.exit_then ?_
          refine Qn.exit_then ?_
          refine Qn.block ?_
          have hI := hI.drop
          have e := someS h1
          subst e
          exact Qn.thenJ fun a ha => ⟨rfl, ha.keep [] (by kernel_rfl), hI⟩
      ·
        rintro a w ⟨rfl, ha, hI⟩
        try dsimp only at h0
        refine Qn.of ?_ ha
        refine Qn.then ?_
        refine CodT.seq ?_
        refine CodT.regionL [0] (by kernel_rfl) ?_
        refine OpsT.pures (r := []) [0] [2] (S' := [(2, .bool true)]) (by kernel_rfl) ?_
        refine OpsT.done ?_
        refine Qn.then ?_
        refine CodT.ret ?_
        have e := someS h0
        subst e
        refine Qn.keep [2] (S' := [(2, .bool true)]) (by kernel_rfl) ?_
        exact post_ret (v := .bool true) (fun a ha => RunRes.run (vs := [.bool true]) (.tmp (t := 2) (by kernel_rfl) .nil) ha (by kernel_rfl)) ⟨rfl, hI⟩
end Go.Cen
