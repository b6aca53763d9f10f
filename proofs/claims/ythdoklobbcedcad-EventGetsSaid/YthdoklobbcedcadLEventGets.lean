/- The walk of the law EventGets, printed by a program of ours. -/
import Derived.Test.YthdoklobbcedcadWx3
set_option linter.unusedVariables false
set_option linter.unusedSimpArgs false
namespace Go.Cen
set_option maxRecDepth 100000 in
set_option maxHeartbeats 4000000 in
/-- cenotaph/cenotaphlaw05.EventGets -/
theorem c4 (w0 w : World) (Z : Hp) (A : HP) (hI : Inv w0 Z w A) (a0 : ByteArray) (r : Bool) (h0 : law05_EventGets a0 = some r) :
    Calls prog 4 #[.string a0] w (fun e w' => e = .returned (.bool r) ∧ Inv w0 Z w' A) := by
  have e4 := calls_intro (R := (fun e w' => e = .returned (.bool r) ∧ Inv w0 Z w' A)) (w := w) (args := [.string a0]) (fn := Go.Proofs.Try.f4) 45 Go.Proofs.Try.func4 (by rfl) Go.Proofs.Try.ntmps4 (by kernel_rfl)
  refine e4 ?_
  clear e4
  unfold law05_EventGets at h0
  refine CodT.seq ?_
  refine CodT.regionL [0] (by kernel_rfl) ?_
  refine OpsT.pures (r := []) [0] [0] (S' := [(0, .string a0)]) (by kernel_rfl) ?_
  refine OpsT.done ?_
  refine Qn.then ?_
  refine CodT.seq ?_
  refine CodT.regionL [0, 1] (by kernel_rfl) ?_
  obtain ⟨y2, hc1, h0⟩ := bindS h0
  try dsimp only at h0
  refine OpsT.cons (Does.call (d := some 10) (n := 9) (vs := []) (by kernel_rfl) en9 (c9 w0 w _ _ hI _ hc1) ?_)
  rintro e w ⟨rfl, hI⟩
  refine ⟨_, rfl, ?_⟩
  refine OpsT.pures (r := []) [1] [0, 3] (S' := [(0, .string a0), (3, .bool y2)]) (by kernel_rfl) ?_
  refine OpsT.done ?_
  refine Qn.then ?_
  refine CodT.seq ?_
  refine CodT.seq ?_
  refine CodT.regionL [0, 1] (by kernel_rfl) ?_
  refine OpsT.pures (r := []) [0, 1] [0, 3, 12] (S' := [(0, .string a0), (3, .bool y2), (12, .bool (!y2))]) (by kernel_rfl) ?_
  refine OpsT.done ?_
  refine Qn.then ?_
  by_cases hb3 : (!y2) = true
  · rw [if_pos hb3] at h0
    refine CodT.yes' (b := !y2) (by kernel_rfl) hb3 ?_
    refine CodT.seq ?_
    refine CodT.regionL [0] (by kernel_rfl) ?_
    refine OpsT.pures (r := []) [0] [2] (S' := [(2, .bool false)]) (by kernel_rfl) ?_
    refine OpsT.done ?_
    refine Qn.then ?_
    refine CodT.ret ?_
    refine Qn.ret_then ?_
    have e := someS h0
    subst e
    refine Qn.keep [2] (S' := [(2, .bool false)]) (by kernel_rfl) ?_
    exact post_ret (v := .bool false) (fun a ha => RunRes.run (vs := [.bool false]) (.tmp (t := 2) (by kernel_rfl) .nil) ha (by kernel_rfl)) ⟨rfl, hI⟩
  · rw [if_neg hb3] at h0
    refine CodT.no' (b := !y2) (by kernel_rfl) (by simpa using hb3) ?_
    refine CodT.skip ?_
    refine Qn.then ?_
    refine CodT.seq ?_
    refine CodT.seq ?_
    refine CodT.regionL [0, 1, 2] (by kernel_rfl) ?_
    refine OpsT.pures (r := []) [0, 1, 2] [0, 3, 15] (S' := [(0, .string a0), (3, .bool y2), (15, .bool (decide ((a0.size : Int) > 300)))]) (by kernel_rfl) ?_
    refine OpsT.done ?_
    refine Qn.then ?_
    by_cases hb4 : (decide ((a0.size : Int) > 300)) = true
    · rw [if_pos hb4] at h0
      refine CodT.yes' (b := decide ((a0.size : Int) > 300)) (by kernel_rfl) hb4 ?_
      refine CodT.seq ?_
      refine CodT.regionL [0, 1] (by kernel_rfl) ?_
      refine OpsT.pures (r := []) [0, 1] [2] (S' := [(2, .bool y2)]) (by kernel_rfl) ?_
      refine OpsT.done ?_
      refine Qn.then ?_
      refine CodT.ret ?_
      refine Qn.ret_then ?_
      have e := someS h0
      subst e
      refine Qn.keep [2] (S' := [(2, .bool y2)]) (by kernel_rfl) ?_
      exact post_ret (v := .bool y2) (fun a ha => RunRes.run (vs := [.bool y2]) (.tmp (t := 2) (by kernel_rfl) .nil) ha (by kernel_rfl)) ⟨rfl, hI⟩
    · rw [if_neg hb4] at h0
      refine CodT.no' (b := decide ((a0.size : Int) > 300)) (by kernel_rfl) (by simpa using hb4) ?_
      refine CodT.skip ?_
      refine Qn.then ?_
      refine CodT.seq ?_
      refine CodT.regionL [0, 1, 2, 3, 4, 5, 6, 7, 8, 9] (by kernel_rfl) ?_
      refine OpsT.pures (r := [1, 2, 3, 4, 5, 6, 7, 8, 9]) [0] [0, 3, 18] (S' := [(0, .string a0), (3, .bool y2), (18, .string a0)]) (by kernel_rfl) ?_
      obtain ⟨⟨y6, y8, y9⟩, hc5, h0⟩ := bindS h0
      try dsimp only at h0
      refine OpsT.cons (Does.call (d := some 19) (n := 16) (vs := [.string a0]) (by kernel_rfl) en16 (c16 w0 w _ _ hI a0 _ hc5) ?_)
      rintro e w ⟨rfl, hl7, hI⟩
      refine ⟨_, rfl, ?_⟩
      refine OpsT.pures (r := [6, 7, 8, 9]) [2, 3, 4, 5] [0, 3, 20, 21, 22] (S' := [(0, .string a0), (3, .bool y2), (20, .agg (c_ApiEvent y6).toArray), (21, .string y8), (22, .bool y9)]) (by kernel_rfl) ?_
      refine OpsT.cons (Does.allocL (d := 4) (T := 26) (c_ApiEvent (ApiEvent.mk 0 0 (⟨#[]⟩ : ByteArray) 0 0 (List.replicate 32 (0 : Int)))) (by kernel_rfl) ty26 hI (by kernel_rfl) ?_)
      intro b10 w hI
      refine OpsT.cons (Does.storeLit (T := 26) (b := b10) (o := 0) (v := .agg (c_ApiEvent y6).toArray) (l := c_ApiEvent (ApiEvent.mk 0 0 (⟨#[]⟩ : ByteArray) 0 0 (List.replicate 32 (0 : Int)))) (vs := c_ApiEvent y6) (L' := c_ApiEvent y6) (by kernel_rfl) ty26 hI (by kernel_rfl) (len_ApiEvent _ hl7) (by rw [(len_ApiEvent _ (by kernel_rfl))]; kernel_rfl) (ones_app _ _ (by kernel_rfl) (ones_cA _)) (lset_all _ _ (Eq.trans (len_ApiEvent _ hl7) (Eq.symm (len_ApiEvent _ (by kernel_rfl))))) ?_)
      intro w hI
      refine OpsT.pures (r := []) [8, 9] [0, 3, 4, 5, 6] (S' := [(0, .string a0), (3, .bool y2), (4, .pointer (some ⟨b10, 0, none⟩)), (5, .string y8), (6, .bool y9)]) (by kernel_rfl) ?_
      refine OpsT.done ?_
      refine Qn.then ?_
      refine CodT.seq ?_
      refine CodT.regionL [0, 1, 2, 3, 4, 5, 6, 7, 8, 9] (by kernel_rfl) ?_
      refine OpsT.pures (r := [1, 2, 3, 4, 5, 6, 7, 8, 9]) [0] [3, 4, 5, 6, 24] (S' := [(3, .bool y2), (4, .pointer (some ⟨b10, 0, none⟩)), (5, .string y8), (6, .bool y9), (24, .string a0)]) (by kernel_rfl) ?_
      obtain ⟨⟨y12, y14, y15⟩, hc11, h0⟩ := bindS h0
      try dsimp only at h0
      refine OpsT.cons (Does.call (d := some 25) (n := 17) (vs := [.string a0]) (by kernel_rfl) en17 (c17 w0 w _ _ hI a0 _ hc11) ?_)
      rintro e w ⟨rfl, hl13, hI⟩
      refine ⟨_, rfl, ?_⟩
      refine OpsT.pures (r := [6, 7, 8, 9]) [2, 3, 4, 5] [3, 4, 5, 6, 26, 27, 28] (S' := [(3, .bool y2), (4, .pointer (some ⟨b10, 0, none⟩)), (5, .string y8), (6, .bool y9), (26, .agg (c_ApiEvent y12).toArray), (27, .string y14), (28, .bool y15)]) (by kernel_rfl) ?_
      refine OpsT.cons (Does.allocL (d := 7) (T := 26) (c_ApiEvent (ApiEvent.mk 0 0 (⟨#[]⟩ : ByteArray) 0 0 (List.replicate 32 (0 : Int)))) (by kernel_rfl) ty26 hI (by kernel_rfl) ?_)
      intro b16 w hI
      refine OpsT.cons (Does.storeLit (T := 26) (b := b16) (o := 0) (v := .agg (c_ApiEvent y12).toArray) (l := c_ApiEvent (ApiEvent.mk 0 0 (⟨#[]⟩ : ByteArray) 0 0 (List.replicate 32 (0 : Int)))) (vs := c_ApiEvent y12) (L' := c_ApiEvent y12) (by kernel_rfl) ty26 hI (by kernel_rfl) (len_ApiEvent _ hl13) (by rw [(len_ApiEvent _ (by kernel_rfl))]; kernel_rfl) (ones_app _ _ (by kernel_rfl) (ones_cA _)) (lset_all _ _ (Eq.trans (len_ApiEvent _ hl13) (Eq.symm (len_ApiEvent _ (by kernel_rfl))))) ?_)
      intro w hI
      refine OpsT.pures (r := []) [8, 9] [3, 4, 5, 6, 7, 8, 9] (S' := [(3, .bool y2), (4, .pointer (some ⟨b10, 0, none⟩)), (5, .string y8), (6, .bool y9), (7, .pointer (some ⟨b16, 0, none⟩)), (8, .string y14), (9, .bool y15)]) (by kernel_rfl) ?_
      refine OpsT.done ?_
      refine Qn.then ?_
      obtain ⟨r1, h1, h0⟩ := bindS h0
      refine CodT.meet (fun a w => ∃ (x17 : Bool), x17 = r1 ∧ Fr 45 [(2, .bool x17)] a ∧ Inv w0 Z w A) ?_ ?_
      ·
        refine CodT.regionL [0, 1, 2, 3, 4, 5, 6, 7, 8, 9, 10, 11, 12, 13, 14, 15, 16] (by kernel_rfl) ?_
        refine OpsT.pures (r := [2, 3, 4, 5, 6, 7, 8, 9, 10, 11, 12, 13, 14, 15, 16]) [0, 1] [4, 5, 6, 7, 8, 9, 30] (S' := [(4, .pointer (some ⟨b10, 0, none⟩)), (5, .string y8), (6, .bool y9), (7, .pointer (some ⟨b16, 0, none⟩)), (8, .string y14), (9, .bool y15), (30, .bool y2)]) (by kernel_rfl) ?_
        by_cases hb18 : y2 = true
        · rw [if_pos hb18] at h1
          refine OpsT.keep [4, 5, 6, 7, 8, 9, 30] (S' := [(4, .pointer (some ⟨b10, 0, none⟩)), (5, .string y8), (6, .bool y9), (7, .pointer (some ⟨b16, 0, none⟩)), (8, .string y14), (9, .bool y15), (30, .bool true)]) (by (try simp only [hb18]); kernel_rfl) ?_
          refine OpsT.cons (Does.yi (Yl.load (d := 31) (T := 26) (v := .agg (c_ApiEvent y6).toArray) (by kernel_rfl) (ldBN ty26 (l := c_ApiEvent y6) (o := 0) (cs := c_ApiEvent y6) (pick2 _ _ _) (len_ApiEvent _ hl7) (whole _ _ (len_ApiEvent _ hl7)))) hI ?_)
          refine OpsT.cons (Does.yi (Yl.load (d := 32) (T := 26) (v := .agg (c_ApiEvent y12).toArray) (by kernel_rfl) (ldBN ty26 (l := c_ApiEvent y12) (o := 0) (cs := c_ApiEvent y12) (ent_refl _) (len_ApiEvent _ hl13) (whole _ _ (len_ApiEvent _ hl13)))) hI ?_)
          refine OpsT.cons (Does.yi (Yl.eqlS (d := 33) (T := 26) (xs := ([.int .i64 y6.Kind, .int .i64 y6.ID, .string y6.Name, .int .i64 y6.Time, .int .i64 y6.Len] : List Value) ++ (cA (Value.int .u8) y6.Sum)) (ys := ([.int .i64 y12.Kind, .int .i64 y12.ID, .string y12.Name, .int .i64 y12.Time, .int .i64 y12.Len] : List Value) ++ (cA (Value.int .u8) y12.Sum)) (r := eq_ApiEvent y6 y12) (by kernel_rfl) Go.Proofs.Try.underlying26 (by kernel_rfl) (by kernel_rfl) (.cons rfl (part1 (v := .int .i64 y6.Kind) ty22 (by kernel_rfl)) (part1 (v := .int .i64 y12.Kind) ty22 (by kernel_rfl)) (eqI Go.Proofs.Try.underlying22) (.cons rfl (part1 (v := .int .i64 y6.ID) ty3 (by kernel_rfl)) (part1 (v := .int .i64 y12.ID) ty3 (by kernel_rfl)) (eqI Go.Proofs.Try.underlying3) (.cons rfl (part1 (v := .string y6.Name) ty9 (by kernel_rfl)) (part1 (v := .string y12.Name) ty9 (by kernel_rfl)) (eqS Go.Proofs.Try.underlying9) (.cons rfl (part1 (v := .int .i64 y6.Time) ty3 (by kernel_rfl)) (part1 (v := .int .i64 y12.Time) ty3 (by kernel_rfl)) (eqI Go.Proofs.Try.underlying3) (.cons rfl (part1 (v := .int .i64 y6.Len) ty3 (by kernel_rfl)) (part1 (v := .int .i64 y12.Len) ty3 (by kernel_rfl)) (eqI Go.Proofs.Try.underlying3) (.cons rfl (partN ty24 (tail_take _ _ _ _ _ (by kernel_rfl) hl7)) (partN ty24 (tail_take _ _ _ _ _ (by kernel_rfl) hl13)) (eqAr Go.Proofs.Try.underlying24 Go.Proofs.Try.underlying5 ty5 hl7 hl13) .nil))))))) hI ?_)
          refine OpsT.pures (r := [7, 8, 9, 10, 11, 12, 13, 14, 15, 16]) [5, 6] [5, 6, 8, 9, 35] (S' := [(5, .string y8), (6, .bool y9), (8, .string y14), (9, .bool y15), (35, .bool (eq_ApiEvent y6 y12))]) (by kernel_rfl) ?_
          by_cases hb19 : (eq_ApiEvent y6 y12) = true
          · rw [if_pos hb19] at h1
            refine OpsT.keep [5, 6, 8, 9, 35] (S' := [(5, .string y8), (6, .bool y9), (8, .string y14), (9, .bool y15), (35, .bool true)]) (by (try simp only [hb19]); kernel_rfl) ?_
            refine OpsT.pures (r := [12, 13, 14, 15, 16]) [7, 8, 9, 10, 11] [6, 9, 40] (S' := [(6, .bool y9), (9, .bool y15), (40, .bool (seq y8 y14))]) (by kernel_rfl) ?_
            by_cases hb20 : (seq y8 y14) = true
            · rw [if_pos hb20] at h1
              refine OpsT.keep [6, 9, 40] (S' := [(6, .bool y9), (9, .bool y15), (40, .bool true)]) (by (try simp only [hb20]); kernel_rfl) ?_
              refine OpsT.pures (r := []) [12, 13, 14, 15, 16] [2] (S' := [(2, .bool (y9 == y15))]) (by kernel_rfl) ?_
              refine OpsT.done ?_
              have hI := hI.drop
              have hI := hI.drop
              have e := someS h1
              subst e
              exact Qn.thenJ fun a ha => ⟨y9 == y15, rfl, ha.keep [2] (by kernel_rfl), hI⟩
            · rw [if_neg hb20] at h1
              have hb20 : (seq y8 y14) = false := by simpa using hb20
              refine OpsT.keep [6, 9, 40] (S' := [(6, .bool y9), (9, .bool y15), (40, .bool false)]) (by (try simp only [hb20]); kernel_rfl) ?_
              refine OpsT.pures (r := []) [12, 13, 14, 15, 16] [2] (S' := [(2, .bool false)]) (by kernel_rfl) ?_
              refine OpsT.done ?_
              have hI := hI.drop
              have hI := hI.drop
              have e := someS h1
              subst e
              exact Qn.thenJ fun a ha => ⟨false, rfl, ha.keep [2] (by kernel_rfl), hI⟩
          · rw [if_neg hb19] at h1
            have hb19 : (eq_ApiEvent y6 y12) = false := by simpa using hb19
            refine OpsT.keep [5, 6, 8, 9, 35] (S' := [(5, .string y8), (6, .bool y9), (8, .string y14), (9, .bool y15), (35, .bool false)]) (by (try simp only [hb19]); kernel_rfl) ?_
            refine OpsT.pures (r := []) [7, 8, 9, 10, 11, 12, 13, 14, 15, 16] [2] (S' := [(2, .bool false)]) (by kernel_rfl) ?_
            refine OpsT.done ?_
            have hI := hI.drop
            have hI := hI.drop
            have e := someS h1
            subst e
            exact Qn.thenJ fun a ha => ⟨false, rfl, ha.keep [2] (by kernel_rfl), hI⟩
        · rw [if_neg hb18] at h1
          have hb18 : y2 = false := by simpa using hb18
          refine OpsT.keep [4, 5, 6, 7, 8, 9, 30] (S' := [(4, .pointer (some ⟨b10, 0, none⟩)), (5, .string y8), (6, .bool y9), (7, .pointer (some ⟨b16, 0, none⟩)), (8, .string y14), (9, .bool y15), (30, .bool false)]) (by (try simp only [hb18]); kernel_rfl) ?_
          refine OpsT.pures (r := []) [2, 3, 4, 5, 6, 7, 8, 9, 10, 11, 12, 13, 14, 15, 16] [2] (S' := [(2, .bool false)]) (by kernel_rfl) ?_
          refine OpsT.done ?_
          have hI := hI.drop
          have hI := hI.drop
          have e := someS h1
          subst e
          exact Qn.thenJ fun a ha => ⟨false, rfl, ha.keep [2] (by kernel_rfl), hI⟩
      ·
        rintro a w ⟨x17, rfl, ha, hI⟩
        try dsimp only at h0
        refine CodT.of ?_ ha
        refine CodT.ret ?_
        have e := someS h0
        subst e
        refine Qn.keep [2] (S' := [(2, .bool x17)]) (by kernel_rfl) ?_
        exact post_ret (v := .bool x17) (fun a ha => RunRes.run (vs := [.bool x17]) (.tmp (t := 2) (by kernel_rfl) .nil) ha (by kernel_rfl)) ⟨rfl, hI⟩
end Go.Cen
