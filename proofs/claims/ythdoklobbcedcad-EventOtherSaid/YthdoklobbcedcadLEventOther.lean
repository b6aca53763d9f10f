/- The walk of the law EventOther, printed by a program of ours. -/
import Derived.Test.YthdoklobbcedcadPx
import Derived.Test.YthdoklobbcedcadWx2
set_option linter.unusedVariables false
set_option linter.unusedSimpArgs false
namespace Go.Cen
set_option maxRecDepth 100000 in
set_option maxHeartbeats 4000000 in
/-- cenotaph/cenotaphlaw05.EventOther -/
theorem c8 (w0 w : World) (Z : Hp) (A : HP) (hI : Inv w0 Z w A) (a0 : ApiEvent) (hl1 : a0.Sum.length = 32) (a1 : Int) (a2 : (List Int)) (hl_a2 : a2.length = 32) (r : Bool) (h0 : law05_EventOther a0 a1 a2 = some r) :
    Calls prog 8 #[.agg (c_ApiEvent a0).toArray, .int .i64 a1, .agg (cA (Value.int .u8) a2).toArray] w (fun e w' => e = .returned (.bool r) ∧ Inv w0 Z w' A) := by
  have e4 := calls_intro (R := (fun e w' => e = .returned (.bool r) ∧ Inv w0 Z w' A)) (w := w) (args := [.agg (c_ApiEvent a0).toArray, .int .i64 a1, .agg (cA (Value.int .u8) a2).toArray]) (fn := Go.Proofs.Try.f8) 89 Go.Proofs.Try.func8 (by rfl) Go.Proofs.Try.ntmps8 (by kernel_rfl)
  refine e4 ?_
  clear e4
  unfold law05_EventOther at h0
  refine CodT.seq ?_
  refine CodT.regionL [0, 1, 2] (by kernel_rfl) ?_
  refine OpsT.cons (Does.boxL (d := 3) (T := 26) (v := .agg (c_ApiEvent a0).toArray) (c_ApiEvent a0) (by kernel_rfl) hI (by kernel_rfl) ?_)
  intro b2 w hI
  refine OpsT.cons (Does.boxL (d := 5) (T := 24) (v := .agg (cA (Value.int .u8) a2).toArray) (cA (Value.int .u8) a2) (by kernel_rfl) hI (by kernel_rfl) ?_)
  intro b3 w hI
  refine OpsT.pures (r := []) [2] [1, 3, 5] (S' := [(1, .int .i64 a1), (3, .pointer (some ⟨b2, 0, none⟩)), (5, .pointer (some ⟨b3, 0, none⟩))]) (by kernel_rfl) ?_
  refine OpsT.done ?_
  refine Qn.then ?_
  refine CodT.seq ?_
  refine CodT.regionL [0, 1] (by kernel_rfl) ?_
  obtain ⟨y5, hc4, h0⟩ := bindS h0
  try dsimp only at h0
  refine OpsT.cons (Does.call (d := some 11) (n := 9) (vs := []) (by kernel_rfl) en9 (c9 w0 w _ _ hI _ hc4) ?_)
  rintro e w ⟨rfl, hI⟩
  refine ⟨_, rfl, ?_⟩
  refine OpsT.pures (r := []) [1] [1, 3, 5, 7] (S' := [(1, .int .i64 a1), (3, .pointer (some ⟨b2, 0, none⟩)), (5, .pointer (some ⟨b3, 0, none⟩)), (7, .bool y5)]) (by kernel_rfl) ?_
  refine OpsT.done ?_
  refine Qn.then ?_
  refine CodT.seq ?_
  refine CodT.seq ?_
  refine CodT.regionL [0, 1] (by kernel_rfl) ?_
  refine OpsT.pures (r := []) [0, 1] [1, 3, 5, 7, 13] (S' := [(1, .int .i64 a1), (3, .pointer (some ⟨b2, 0, none⟩)), (5, .pointer (some ⟨b3, 0, none⟩)), (7, .bool y5), (13, .bool (!y5))]) (by kernel_rfl) ?_
  refine OpsT.done ?_
  refine Qn.then ?_
  by_cases hb6 : (!y5) = true
  · rw [if_pos hb6] at h0
    refine CodT.yes' (b := !y5) (by kernel_rfl) hb6 ?_
    refine CodT.seq ?_
    refine CodT.regionL [0] (by kernel_rfl) ?_
    refine OpsT.pures (r := []) [0] [6] (S' := [(6, .bool false)]) (by kernel_rfl) ?_
    refine OpsT.done ?_
    refine Qn.then ?_
    refine CodT.ret ?_
    refine Qn.ret_then ?_
    have hI := hI.drop
    have hI := hI.drop
    have e := someS h0
    subst e
    refine Qn.keep [6] (S' := [(6, .bool false)]) (by kernel_rfl) ?_
    exact post_ret (v := .bool false) (fun a ha => RunRes.run (vs := [.bool false]) (.tmp (t := 6) (by kernel_rfl) .nil) ha (by kernel_rfl)) ⟨rfl, hI⟩
  · rw [if_neg hb6] at h0
    refine CodT.no' (b := !y5) (by kernel_rfl) (by simpa using hb6) ?_
    refine CodT.skip ?_
    refine Qn.then ?_
    refine CodT.seq ?_
    obtain ⟨r1, h1, h0⟩ := bindS h0
    refine CodT.meet (fun a w => ∃ (x7 : Bool), x7 = r1 ∧ Fr 89 [(1, .int .i64 a1), (3, .pointer (some ⟨b2, 0, none⟩)), (5, .pointer (some ⟨b3, 0, none⟩)), (7, .bool y5), (26, .bool x7)] a ∧ Inv w0 Z w (star (pt b3 (.cells (cA (Value.int .u8) a2).toArray 24 (0, 0))) (star (pt b2 (.cells (c_ApiEvent a0).toArray 26 (0, 0))) A))) ?_ ?_
    ·
      refine CodT.regionL [0, 1, 2, 3, 4, 5, 6, 7, 8, 9, 10, 11, 12] (by kernel_rfl) ?_
      refine OpsT.pures (r := [1, 2, 3, 4, 5, 6, 7, 8, 9, 10, 11, 12]) [0] [1, 3, 5, 7, 14] (S' := [(1, .int .i64 a1), (3, .pointer (some ⟨b2, 0, none⟩)), (5, .pointer (some ⟨b3, 0, none⟩)), (7, .bool y5), (14, .pointer (some ⟨b2, 2, none⟩))]) (by kernel_rfl) ?_
      refine OpsT.cons (Does.yi (Yl.load (d := 15) (T := 9) (v := .string a0.Name) (by kernel_rfl) (ldB ty9 (l := c_ApiEvent a0) (o := 2) (v := .string a0.Name) (pick2 _ _ _) (by kernel_rfl))) hI ?_)
      refine OpsT.pures (r := [5, 6, 7, 8, 9, 10, 11, 12]) [2, 3, 4] [1, 3, 5, 7, 18] (S' := [(1, .int .i64 a1), (3, .pointer (some ⟨b2, 0, none⟩)), (5, .pointer (some ⟨b3, 0, none⟩)), (7, .bool y5), (18, .bool (decide ((a0.Name.size : Int) > 300)))]) (by kernel_rfl) ?_
      by_cases hb8 : (decide ((a0.Name.size : Int) > 300)) = true
      · rw [if_pos hb8] at h1
        refine OpsT.keep [1, 3, 5, 7, 18] (S' := [(1, .int .i64 a1), (3, .pointer (some ⟨b2, 0, none⟩)), (5, .pointer (some ⟨b3, 0, none⟩)), (7, .bool y5), (18, .bool true)]) (by (try simp only [hb8]); kernel_rfl) ?_
        refine OpsT.pures (r := []) [5, 6, 7, 8, 9, 10, 11, 12] [1, 3, 5, 7, 26] (S' := [(1, .int .i64 a1), (3, .pointer (some ⟨b2, 0, none⟩)), (5, .pointer (some ⟨b3, 0, none⟩)), (7, .bool y5), (26, .bool true)]) (by kernel_rfl) ?_
        refine OpsT.done ?_
        have e := someS h1
        subst e
        exact Qn.thenJ fun a ha => ⟨true, rfl, ha.keep [1, 3, 5, 7, 26] (by kernel_rfl), hI⟩
      · rw [if_neg hb8] at h1
        have hb8 : (decide ((a0.Name.size : Int) > 300)) = false := by simpa using hb8
        refine OpsT.keep [1, 3, 5, 7, 18] (S' := [(1, .int .i64 a1), (3, .pointer (some ⟨b2, 0, none⟩)), (5, .pointer (some ⟨b3, 0, none⟩)), (7, .bool y5), (18, .bool false)]) (by (try simp only [hb8]); kernel_rfl) ?_
        refine OpsT.pures (r := [9, 10, 11, 12]) [5, 6, 7, 8] [1, 3, 5, 7, 22] (S' := [(1, .int .i64 a1), (3, .pointer (some ⟨b2, 0, none⟩)), (5, .pointer (some ⟨b3, 0, none⟩)), (7, .bool y5), (22, .bool (a1 == 0))]) (by kernel_rfl) ?_
        by_cases hb9 : (a1 == 0) = true
        · rw [if_pos hb9] at h1
          refine OpsT.keep [1, 3, 5, 7, 22] (S' := [(1, .int .i64 a1), (3, .pointer (some ⟨b2, 0, none⟩)), (5, .pointer (some ⟨b3, 0, none⟩)), (7, .bool y5), (22, .bool true)]) (by (try simp only [hb9]); kernel_rfl) ?_
          refine OpsT.pures (r := []) [9, 10, 11, 12] [1, 3, 5, 7, 26] (S' := [(1, .int .i64 a1), (3, .pointer (some ⟨b2, 0, none⟩)), (5, .pointer (some ⟨b3, 0, none⟩)), (7, .bool y5), (26, .bool true)]) (by kernel_rfl) ?_
          refine OpsT.done ?_
          have e := someS h1
          subst e
          exact Qn.thenJ fun a ha => ⟨true, rfl, ha.keep [1, 3, 5, 7, 26] (by kernel_rfl), hI⟩
        · rw [if_neg hb9] at h1
          have hb9 : (a1 == 0) = false := by simpa using hb9
          refine OpsT.keep [1, 3, 5, 7, 22] (S' := [(1, .int .i64 a1), (3, .pointer (some ⟨b2, 0, none⟩)), (5, .pointer (some ⟨b3, 0, none⟩)), (7, .bool y5), (22, .bool false)]) (by (try simp only [hb9]); kernel_rfl) ?_
          refine OpsT.cons (Does.yi (Yl.load (d := 23) (T := 26) (v := .agg (c_ApiEvent a0).toArray) (by kernel_rfl) (ldBN ty26 (l := c_ApiEvent a0) (o := 0) (cs := c_ApiEvent a0) (pick2 _ _ _) (len_ApiEvent _ hl1) (whole _ _ (len_ApiEvent _ hl1)))) hI ?_)
          obtain ⟨y11, hc10, h1⟩ := bindS h1
          try dsimp only at h1
          refine OpsT.cons (Does.call (d := some 24) (n := 13) (vs := [.agg (c_ApiEvent a0).toArray]) (by kernel_rfl) en13 (c13 w0 w _ _ hI a0 hl1 _ hc10) ?_)
          rintro e w ⟨rfl, hI⟩
          refine ⟨_, rfl, ?_⟩
          refine OpsT.pures (r := []) [11, 12] [1, 3, 5, 7, 26] (S' := [(1, .int .i64 a1), (3, .pointer (some ⟨b2, 0, none⟩)), (5, .pointer (some ⟨b3, 0, none⟩)), (7, .bool y5), (26, .bool (!y11))]) (by kernel_rfl) ?_
          refine OpsT.done ?_
          have e := someS h1
          subst e
          exact Qn.thenJ fun a ha => ⟨!y11, rfl, ha.keep [1, 3, 5, 7, 26] (by kernel_rfl), hI⟩
    ·
      rintro a w ⟨x7, rfl, ha, hI⟩
      try dsimp only at h0
      refine CodT.of ?_ ha
      by_cases hb12 : x7 = true
      · rw [if_pos hb12] at h0
        refine CodT.yes' (b := x7) (by kernel_rfl) hb12 ?_
        refine CodT.seq ?_
        refine CodT.regionL [0, 1] (by kernel_rfl) ?_
        refine OpsT.pures (r := []) [0, 1] [6] (S' := [(6, .bool y5)]) (by kernel_rfl) ?_
        refine OpsT.done ?_
        refine Qn.then ?_
        refine CodT.ret ?_
        refine Qn.ret_then ?_
        have hI := hI.drop
        have hI := hI.drop
        have e := someS h0
        subst e
        refine Qn.keep [6] (S' := [(6, .bool y5)]) (by kernel_rfl) ?_
        exact post_ret (v := .bool y5) (fun a ha => RunRes.run (vs := [.bool y5]) (.tmp (t := 6) (by kernel_rfl) .nil) ha (by kernel_rfl)) ⟨rfl, hI⟩
      · rw [if_neg hb12] at h0
        refine CodT.no' (b := x7) (by kernel_rfl) (by simpa using hb12) ?_
        refine CodT.skip ?_
        refine Qn.then ?_
        refine CodT.seq ?_
        refine CodT.regionL [0, 1, 2] (by kernel_rfl) ?_
        refine OpsT.cons (Does.yi (Yl.load (d := 28) (T := 26) (v := .agg (c_ApiEvent a0).toArray) (by kernel_rfl) (ldBN ty26 (l := c_ApiEvent a0) (o := 0) (cs := c_ApiEvent a0) (pick2 _ _ _) (len_ApiEvent _ hl1) (whole _ _ (len_ApiEvent _ hl1)))) hI ?_)
        refine OpsT.cons (Does.allocL (d := 8) (T := 26) (c_ApiEvent (ApiEvent.mk 0 0 (⟨#[]⟩ : ByteArray) 0 0 (List.replicate 32 (0 : Int)))) (by kernel_rfl) ty26 hI (by kernel_rfl) ?_)
        intro b13 w hI
        refine OpsT.cons (Does.storeLit (T := 26) (b := b13) (o := 0) (v := .agg (c_ApiEvent a0).toArray) (l := c_ApiEvent (ApiEvent.mk 0 0 (⟨#[]⟩ : ByteArray) 0 0 (List.replicate 32 (0 : Int)))) (vs := c_ApiEvent a0) (L' := c_ApiEvent a0) (by kernel_rfl) ty26 hI (by kernel_rfl) (len_ApiEvent _ hl1) (by rw [(len_ApiEvent _ (by kernel_rfl))]; kernel_rfl) (ones_app _ _ (by kernel_rfl) (ones_cA _)) (lset_all _ _ (Eq.trans (len_ApiEvent _ hl1) (Eq.symm (len_ApiEvent _ (by kernel_rfl))))) ?_)
        intro w hI
        refine OpsT.done ?_
        refine Qn.then ?_
        refine CodT.seq ?_
        refine CodT.regionL [0, 1, 2] (by kernel_rfl) ?_
        refine OpsT.cons (Does.yi (Yl.load (d := 29) (T := 26) (v := .agg (c_ApiEvent a0).toArray) (by kernel_rfl) (ldBN ty26 (l := c_ApiEvent a0) (o := 0) (cs := c_ApiEvent a0) (pick3 _ _ _ _) (len_ApiEvent _ hl1) (whole _ _ (len_ApiEvent _ hl1)))) hI ?_)
        refine OpsT.cons (Does.allocL (d := 9) (T := 26) (c_ApiEvent (ApiEvent.mk 0 0 (⟨#[]⟩ : ByteArray) 0 0 (List.replicate 32 (0 : Int)))) (by kernel_rfl) ty26 hI (by kernel_rfl) ?_)
        intro b14 w hI
        refine OpsT.cons (Does.storeLit (T := 26) (b := b14) (o := 0) (v := .agg (c_ApiEvent a0).toArray) (l := c_ApiEvent (ApiEvent.mk 0 0 (⟨#[]⟩ : ByteArray) 0 0 (List.replicate 32 (0 : Int)))) (vs := c_ApiEvent a0) (L' := c_ApiEvent a0) (by kernel_rfl) ty26 hI (by kernel_rfl) (len_ApiEvent _ hl1) (by rw [(len_ApiEvent _ (by kernel_rfl))]; kernel_rfl) (ones_app _ _ (by kernel_rfl) (ones_cA _)) (lset_all _ _ (Eq.trans (len_ApiEvent _ hl1) (Eq.symm (len_ApiEvent _ (by kernel_rfl))))) ?_)
        intro w hI
        refine OpsT.done ?_
        refine Qn.then ?_
        refine CodT.seq ?_
        refine CodT.regionL [0, 1, 2] (by kernel_rfl) ?_
        refine OpsT.cons (Does.yi (Yl.load (d := 30) (T := 26) (v := .agg (c_ApiEvent a0).toArray) (by kernel_rfl) (ldBN ty26 (l := c_ApiEvent a0) (o := 0) (cs := c_ApiEvent a0) (pick4 _ _ _ _ _) (len_ApiEvent _ hl1) (whole _ _ (len_ApiEvent _ hl1)))) hI ?_)
        refine OpsT.cons (Does.allocL (d := 10) (T := 26) (c_ApiEvent (ApiEvent.mk 0 0 (⟨#[]⟩ : ByteArray) 0 0 (List.replicate 32 (0 : Int)))) (by kernel_rfl) ty26 hI (by kernel_rfl) ?_)
        intro b15 w hI
        refine OpsT.cons (Does.storeLit (T := 26) (b := b15) (o := 0) (v := .agg (c_ApiEvent a0).toArray) (l := c_ApiEvent (ApiEvent.mk 0 0 (⟨#[]⟩ : ByteArray) 0 0 (List.replicate 32 (0 : Int)))) (vs := c_ApiEvent a0) (L' := c_ApiEvent a0) (by kernel_rfl) ty26 hI (by kernel_rfl) (len_ApiEvent _ hl1) (by rw [(len_ApiEvent _ (by kernel_rfl))]; kernel_rfl) (ones_app _ _ (by kernel_rfl) (ones_cA _)) (lset_all _ _ (Eq.trans (len_ApiEvent _ hl1) (Eq.symm (len_ApiEvent _ (by kernel_rfl))))) ?_)
        intro w hI
        refine OpsT.done ?_
        refine Qn.then ?_
        obtain ⟨r1, h1, h0⟩ := bindS h0
        refine CodT.meet (fun a w => ∃ (x16 : ApiEvent), x16 = r1 ∧ Fr 89 [(1, .int .i64 a1), (3, .pointer (some ⟨b2, 0, none⟩)), (5, .pointer (some ⟨b3, 0, none⟩)), (7, .bool y5), (8, .pointer (some ⟨b13, 0, none⟩)), (9, .pointer (some ⟨b14, 0, none⟩)), (10, .pointer (some ⟨b15, 0, none⟩))] a ∧ Inv w0 Z w (star (pt b15 (.cells (c_ApiEvent a0).toArray 26 (0, 0))) (star (pt b14 (.cells (c_ApiEvent a0).toArray 26 (0, 0))) (star (pt b13 (.cells (c_ApiEvent x16).toArray 26 (0, 0))) (star (pt b3 (.cells (cA (Value.int .u8) a2).toArray 24 (0, 0))) (star (pt b2 (.cells (c_ApiEvent a0).toArray 26 (0, 0))) A))))) ∧ x16.Sum.length = 32) ?_ ?_
        ·
          refine CodT.seq ?_
          refine CodT.regionL [0, 1, 2] (by kernel_rfl) ?_
          refine OpsT.pures (r := [1, 2]) [0] [1, 3, 5, 7, 8, 9, 10, 31] (S' := [(1, .int .i64 a1), (3, .pointer (some ⟨b2, 0, none⟩)), (5, .pointer (some ⟨b3, 0, none⟩)), (7, .bool y5), (8, .pointer (some ⟨b13, 0, none⟩)), (9, .pointer (some ⟨b14, 0, none⟩)), (10, .pointer (some ⟨b15, 0, none⟩)), (31, .pointer (some ⟨b2, 0, none⟩))]) (by kernel_rfl) ?_
          refine OpsT.cons (Does.yi (Yl.load (d := 32) (T := 22) (v := .int .i64 a0.Kind) (by kernel_rfl) (ldB ty22 (l := c_ApiEvent a0) (o := 0) (v := .int .i64 a0.Kind) (pick5 _ _ _ _ _ _) (by kernel_rfl))) hI ?_)
          refine OpsT.pures (r := []) [2] [1, 3, 5, 7, 8, 9, 10, 33] (S' := [(1, .int .i64 a1), (3, .pointer (some ⟨b2, 0, none⟩)), (5, .pointer (some ⟨b3, 0, none⟩)), (7, .bool y5), (8, .pointer (some ⟨b13, 0, none⟩)), (9, .pointer (some ⟨b14, 0, none⟩)), (10, .pointer (some ⟨b15, 0, none⟩)), (33, .bool (a0.Kind == 7))]) (by kernel_rfl) ?_
          refine OpsT.done ?_
          refine Qn.then ?_
          by_cases hb18 : (a0.Kind == 7) = true
          · rw [if_pos hb18] at h1
            refine CodT.yes' (b := a0.Kind == 7) (by kernel_rfl) hb18 ?_
            refine CodT.regionL [0, 1, 2] (by kernel_rfl) ?_
            refine OpsT.pures (r := [2]) [0, 1] [1, 3, 5, 7, 8, 9, 10, 34, 35] (S' := [(1, .int .i64 a1), (3, .pointer (some ⟨b2, 0, none⟩)), (5, .pointer (some ⟨b3, 0, none⟩)), (7, .bool y5), (8, .pointer (some ⟨b13, 0, none⟩)), (9, .pointer (some ⟨b14, 0, none⟩)), (10, .pointer (some ⟨b15, 0, none⟩)), (34, .int .i64 a1), (35, .pointer (some ⟨b13, 1, none⟩))]) (by kernel_rfl) ?_
            have hI := hI.mono (pick3 _ _ _ _)
            refine OpsT.cons (Does.storeLit (T := 3) (b := b13) (o := 1) (v := .int .i64 a1) (l := c_ApiEvent a0) (vs := ([.int .i64 a1] : List Value)) (L' := c_ApiEvent (ApiEvent.mk a0.Kind a1 a0.Name a0.Time a0.Len a0.Sum)) (by kernel_rfl) ty3 hI (by kernel_rfl) (by kernel_rfl) (by kernel_rfl) (by kernel_rfl) (by kernel_rfl) ?_)
            intro w hI
            refine OpsT.done ?_
            have hI := hI.mono (pick5 _ _ _ _ _ _)
            have hI := hI.mono (pick5 _ _ _ _ _ _)
            have hI := hI.mono (pick3 _ _ _ _)
            have hI := hI.mono (pick5 _ _ _ _ _ _)
            have hI := hI.mono (pick5 _ _ _ _ _ _)
            have e := someS h1
            subst e
            exact Qn.thenJ fun a ha => ⟨(ApiEvent.mk a0.Kind a1 a0.Name a0.Time a0.Len a0.Sum), rfl, ha.keep [1, 3, 5, 7, 8, 9, 10] (by kernel_rfl), hI, hl1⟩
          · rw [if_neg hb18] at h1
            refine CodT.no' (b := a0.Kind == 7) (by kernel_rfl) (by simpa using hb18) ?_
            obtain ⟨r2, h2, h1⟩ := bindS h1
            refine CodT.meet (fun a w => ∃ (x19 : Bool), x19 = r2 ∧ Fr 89 [(1, .int .i64 a1), (3, .pointer (some ⟨b2, 0, none⟩)), (5, .pointer (some ⟨b3, 0, none⟩)), (7, .bool y5), (8, .pointer (some ⟨b13, 0, none⟩)), (9, .pointer (some ⟨b14, 0, none⟩)), (10, .pointer (some ⟨b15, 0, none⟩)), (48, .bool x19)] a ∧ Inv w0 Z w (star (pt b15 (.cells (c_ApiEvent a0).toArray 26 (0, 0))) (star (pt b14 (.cells (c_ApiEvent a0).toArray 26 (0, 0))) (star (pt b13 (.cells (c_ApiEvent a0).toArray 26 (0, 0))) (star (pt b3 (.cells (cA (Value.int .u8) a2).toArray 24 (0, 0))) (star (pt b2 (.cells (c_ApiEvent a0).toArray 26 (0, 0))) A)))))) ?_ ?_
            ·
              refine CodT.regionL [0, 1, 2, 3, 4, 5, 6, 7, 8, 9, 10, 11, 12] (by kernel_rfl) ?_
              refine OpsT.pures (r := [1, 2, 3, 4, 5, 6, 7, 8, 9, 10, 11, 12]) [0] [1, 3, 5, 7, 8, 9, 10, 36] (S' := [(1, .int .i64 a1), (3, .pointer (some ⟨b2, 0, none⟩)), (5, .pointer (some ⟨b3, 0, none⟩)), (7, .bool y5), (8, .pointer (some ⟨b13, 0, none⟩)), (9, .pointer (some ⟨b14, 0, none⟩)), (10, .pointer (some ⟨b15, 0, none⟩)), (36, .pointer (some ⟨b2, 0, none⟩))]) (by kernel_rfl) ?_
              refine OpsT.cons (Does.yi (Yl.load (d := 37) (T := 22) (v := .int .i64 a0.Kind) (by kernel_rfl) (ldB ty22 (l := c_ApiEvent a0) (o := 0) (v := .int .i64 a0.Kind) (pick5 _ _ _ _ _ _) (by kernel_rfl))) hI ?_)
              refine OpsT.pures (r := [4, 5, 6, 7, 8, 9, 10, 11, 12]) [2, 3] [1, 3, 5, 7, 8, 9, 10, 39] (S' := [(1, .int .i64 a1), (3, .pointer (some ⟨b2, 0, none⟩)), (5, .pointer (some ⟨b3, 0, none⟩)), (7, .bool y5), (8, .pointer (some ⟨b13, 0, none⟩)), (9, .pointer (some ⟨b14, 0, none⟩)), (10, .pointer (some ⟨b15, 0, none⟩)), (39, .bool (a0.Kind == 0))]) (by kernel_rfl) ?_
              by_cases hb20 : (a0.Kind == 0) = true
              · rw [if_pos hb20] at h2
                refine OpsT.keep [1, 3, 5, 7, 8, 9, 10, 39] (S' := [(1, .int .i64 a1), (3, .pointer (some ⟨b2, 0, none⟩)), (5, .pointer (some ⟨b3, 0, none⟩)), (7, .bool y5), (8, .pointer (some ⟨b13, 0, none⟩)), (9, .pointer (some ⟨b14, 0, none⟩)), (10, .pointer (some ⟨b15, 0, none⟩)), (39, .bool true)]) (by (try simp only [hb20]); kernel_rfl) ?_
                refine OpsT.pures (r := []) [4, 5, 6, 7, 8, 9, 10, 11, 12] [1, 3, 5, 7, 8, 9, 10, 48] (S' := [(1, .int .i64 a1), (3, .pointer (some ⟨b2, 0, none⟩)), (5, .pointer (some ⟨b3, 0, none⟩)), (7, .bool y5), (8, .pointer (some ⟨b13, 0, none⟩)), (9, .pointer (some ⟨b14, 0, none⟩)), (10, .pointer (some ⟨b15, 0, none⟩)), (48, .bool true)]) (by kernel_rfl) ?_
                refine OpsT.done ?_
                have e := someS h2
                subst e
                exact Qn.thenJ fun a ha => ⟨true, rfl, ha.keep [1, 3, 5, 7, 8, 9, 10, 48] (by kernel_rfl), hI⟩
              · rw [if_neg hb20] at h2
                have hb20 : (a0.Kind == 0) = false := by simpa using hb20
                refine OpsT.keep [1, 3, 5, 7, 8, 9, 10, 39] (S' := [(1, .int .i64 a1), (3, .pointer (some ⟨b2, 0, none⟩)), (5, .pointer (some ⟨b3, 0, none⟩)), (7, .bool y5), (8, .pointer (some ⟨b13, 0, none⟩)), (9, .pointer (some ⟨b14, 0, none⟩)), (10, .pointer (some ⟨b15, 0, none⟩)), (39, .bool false)]) (by (try simp only [hb20]); kernel_rfl) ?_
                refine OpsT.pures (r := [5, 6, 7, 8, 9, 10, 11, 12]) [4] [1, 3, 5, 7, 8, 9, 10, 39, 40] (S' := [(1, .int .i64 a1), (3, .pointer (some ⟨b2, 0, none⟩)), (5, .pointer (some ⟨b3, 0, none⟩)), (7, .bool y5), (8, .pointer (some ⟨b13, 0, none⟩)), (9, .pointer (some ⟨b14, 0, none⟩)), (10, .pointer (some ⟨b15, 0, none⟩)), (39, .bool false), (40, .pointer (some ⟨b2, 0, none⟩))]) (by kernel_rfl) ?_
                refine OpsT.cons (Does.yi (Yl.load (d := 41) (T := 22) (v := .int .i64 a0.Kind) (by kernel_rfl) (ldB ty22 (l := c_ApiEvent a0) (o := 0) (v := .int .i64 a0.Kind) (pick5 _ _ _ _ _ _) (by kernel_rfl))) hI ?_)
                refine OpsT.pures (r := [9, 10, 11, 12]) [6, 7, 8] [1, 3, 5, 7, 8, 9, 10, 44] (S' := [(1, .int .i64 a1), (3, .pointer (some ⟨b2, 0, none⟩)), (5, .pointer (some ⟨b3, 0, none⟩)), (7, .bool y5), (8, .pointer (some ⟨b13, 0, none⟩)), (9, .pointer (some ⟨b14, 0, none⟩)), (10, .pointer (some ⟨b15, 0, none⟩)), (44, .bool (a0.Kind == 1))]) (by kernel_rfl) ?_
                by_cases hb21 : (a0.Kind == 1) = true
                · rw [if_pos hb21] at h2
                  refine OpsT.keep [1, 3, 5, 7, 8, 9, 10, 44] (S' := [(1, .int .i64 a1), (3, .pointer (some ⟨b2, 0, none⟩)), (5, .pointer (some ⟨b3, 0, none⟩)), (7, .bool y5), (8, .pointer (some ⟨b13, 0, none⟩)), (9, .pointer (some ⟨b14, 0, none⟩)), (10, .pointer (some ⟨b15, 0, none⟩)), (44, .bool true)]) (by (try simp only [hb21]); kernel_rfl) ?_
                  refine OpsT.pures (r := []) [9, 10, 11, 12] [1, 3, 5, 7, 8, 9, 10, 48] (S' := [(1, .int .i64 a1), (3, .pointer (some ⟨b2, 0, none⟩)), (5, .pointer (some ⟨b3, 0, none⟩)), (7, .bool y5), (8, .pointer (some ⟨b13, 0, none⟩)), (9, .pointer (some ⟨b14, 0, none⟩)), (10, .pointer (some ⟨b15, 0, none⟩)), (48, .bool true)]) (by kernel_rfl) ?_
                  refine OpsT.done ?_
                  have e := someS h2
                  subst e
                  exact Qn.thenJ fun a ha => ⟨true, rfl, ha.keep [1, 3, 5, 7, 8, 9, 10, 48] (by kernel_rfl), hI⟩
                · rw [if_neg hb21] at h2
                  have hb21 : (a0.Kind == 1) = false := by simpa using hb21
                  refine OpsT.keep [1, 3, 5, 7, 8, 9, 10, 44] (S' := [(1, .int .i64 a1), (3, .pointer (some ⟨b2, 0, none⟩)), (5, .pointer (some ⟨b3, 0, none⟩)), (7, .bool y5), (8, .pointer (some ⟨b13, 0, none⟩)), (9, .pointer (some ⟨b14, 0, none⟩)), (10, .pointer (some ⟨b15, 0, none⟩)), (44, .bool false)]) (by (try simp only [hb21]); kernel_rfl) ?_
                  refine OpsT.pures (r := [10, 11, 12]) [9] [1, 3, 5, 7, 8, 9, 10, 44, 45] (S' := [(1, .int .i64 a1), (3, .pointer (some ⟨b2, 0, none⟩)), (5, .pointer (some ⟨b3, 0, none⟩)), (7, .bool y5), (8, .pointer (some ⟨b13, 0, none⟩)), (9, .pointer (some ⟨b14, 0, none⟩)), (10, .pointer (some ⟨b15, 0, none⟩)), (44, .bool false), (45, .pointer (some ⟨b2, 0, none⟩))]) (by kernel_rfl) ?_
                  refine OpsT.cons (Does.yi (Yl.load (d := 46) (T := 22) (v := .int .i64 a0.Kind) (by kernel_rfl) (ldB ty22 (l := c_ApiEvent a0) (o := 0) (v := .int .i64 a0.Kind) (pick5 _ _ _ _ _ _) (by kernel_rfl))) hI ?_)
                  refine OpsT.pures (r := []) [11, 12] [1, 3, 5, 7, 8, 9, 10, 48] (S' := [(1, .int .i64 a1), (3, .pointer (some ⟨b2, 0, none⟩)), (5, .pointer (some ⟨b3, 0, none⟩)), (7, .bool y5), (8, .pointer (some ⟨b13, 0, none⟩)), (9, .pointer (some ⟨b14, 0, none⟩)), (10, .pointer (some ⟨b15, 0, none⟩)), (48, .bool (a0.Kind == 6))]) (by kernel_rfl) ?_
                  refine OpsT.done ?_
                  have e := someS h2
                  subst e
                  exact Qn.thenJ fun a ha => ⟨a0.Kind == 6, rfl, ha.keep [1, 3, 5, 7, 8, 9, 10, 48] (by kernel_rfl), hI⟩
            ·
              rintro a w ⟨x19, rfl, ha, hI⟩
              try dsimp only at h1
              refine CodT.of ?_ ha
              by_cases hb22 : x19 = true
              · rw [if_pos hb22] at h1
                refine CodT.yes' (b := x19) (by kernel_rfl) hb22 ?_
                refine CodT.regionL [0, 1, 2] (by kernel_rfl) ?_
                refine OpsT.pures (r := [2]) [0, 1] [1, 3, 5, 7, 8, 9, 10, 49, 50] (S' := [(1, .int .i64 a1), (3, .pointer (some ⟨b2, 0, none⟩)), (5, .pointer (some ⟨b3, 0, none⟩)), (7, .bool y5), (8, .pointer (some ⟨b13, 0, none⟩)), (9, .pointer (some ⟨b14, 0, none⟩)), (10, .pointer (some ⟨b15, 0, none⟩)), (49, .int .i64 a1), (50, .pointer (some ⟨b13, 3, none⟩))]) (by kernel_rfl) ?_
                have hI := hI.mono (pick3 _ _ _ _)
                refine OpsT.cons (Does.storeLit (T := 3) (b := b13) (o := 3) (v := .int .i64 a1) (l := c_ApiEvent a0) (vs := ([.int .i64 a1] : List Value)) (L' := c_ApiEvent (ApiEvent.mk a0.Kind a0.ID a0.Name a1 a0.Len a0.Sum)) (by kernel_rfl) ty3 hI (by kernel_rfl) (by kernel_rfl) (by kernel_rfl) (by kernel_rfl) (by kernel_rfl) ?_)
                intro w hI
                refine OpsT.done ?_
                have hI := hI.mono (pick5 _ _ _ _ _ _)
                have hI := hI.mono (pick5 _ _ _ _ _ _)
                have hI := hI.mono (pick3 _ _ _ _)
                have hI := hI.mono (pick5 _ _ _ _ _ _)
                have hI := hI.mono (pick5 _ _ _ _ _ _)
                have e := someS h1
                subst e
                exact Qn.thenJ fun a ha => ⟨(ApiEvent.mk a0.Kind a0.ID a0.Name a1 a0.Len a0.Sum), rfl, ha.keep [1, 3, 5, 7, 8, 9, 10] (by kernel_rfl), hI, hl1⟩
              · rw [if_neg hb22] at h1
                refine CodT.no' (b := x19) (by kernel_rfl) (by simpa using hb22) ?_
                refine CodT.regionL [0, 1] (by kernel_rfl) ?_
                refine OpsT.pures (r := [1]) [0] [1, 3, 5, 7, 8, 9, 10, 51] (S' := [(1, .int .i64 a1), (3, .pointer (some ⟨b2, 0, none⟩)), (5, .pointer (some ⟨b3, 0, none⟩)), (7, .bool y5), (8, .pointer (some ⟨b13, 0, none⟩)), (9, .pointer (some ⟨b14, 0, none⟩)), (10, .pointer (some ⟨b15, 0, none⟩)), (51, .pointer (some ⟨b13, 0, none⟩))]) (by kernel_rfl) ?_
                have hI := hI.mono (pick3 _ _ _ _)
                refine OpsT.cons (Does.storeLit (T := 22) (b := b13) (o := 0) (v := .int .i64 8) (l := c_ApiEvent a0) (vs := ([.int .i64 8] : List Value)) (L' := c_ApiEvent (ApiEvent.mk 8 a0.ID a0.Name a0.Time a0.Len a0.Sum)) (by kernel_rfl) ty22 hI (by kernel_rfl) (by kernel_rfl) (by kernel_rfl) (by kernel_rfl) (by kernel_rfl) ?_)
                intro w hI
                refine OpsT.done ?_
                have hI := hI.mono (pick5 _ _ _ _ _ _)
                have hI := hI.mono (pick5 _ _ _ _ _ _)
                have hI := hI.mono (pick3 _ _ _ _)
                have hI := hI.mono (pick5 _ _ _ _ _ _)
                have hI := hI.mono (pick5 _ _ _ _ _ _)
                have e := someS h1
                subst e
                exact Qn.thenJ fun a ha => ⟨(ApiEvent.mk 8 a0.ID a0.Name a0.Time a0.Len a0.Sum), rfl, ha.keep [1, 3, 5, 7, 8, 9, 10] (by kernel_rfl), hI, hl1⟩
        ·
          rintro a w ⟨x16, rfl, ha, hI, hl17⟩
          try dsimp only at h0
          refine CodT.of ?_ ha
          obtain ⟨r1, h1, h0⟩ := bindS h0
          refine CodT.meet (fun a w => ∃ (x23 : ApiEvent), x23 = r1 ∧ Fr 89 [(3, .pointer (some ⟨b2, 0, none⟩)), (5, .pointer (some ⟨b3, 0, none⟩)), (7, .bool y5), (8, .pointer (some ⟨b13, 0, none⟩)), (9, .pointer (some ⟨b14, 0, none⟩)), (10, .pointer (some ⟨b15, 0, none⟩))] a ∧ Inv w0 Z w (star (pt b15 (.cells (c_ApiEvent a0).toArray 26 (0, 0))) (star (pt b14 (.cells (c_ApiEvent x23).toArray 26 (0, 0))) (star (pt b13 (.cells (c_ApiEvent x16).toArray 26 (0, 0))) (star (pt b3 (.cells (cA (Value.int .u8) a2).toArray 24 (0, 0))) (star (pt b2 (.cells (c_ApiEvent a0).toArray 26 (0, 0))) A))))) ∧ x23.Sum.length = 32) ?_ ?_
          ·
            obtain ⟨r2, h2, h1⟩ := bindS h1
            refine CodT.meet (fun a w => ∃ (x25 : Bool), x25 = r2 ∧ Fr 89 [(1, .int .i64 a1), (3, .pointer (some ⟨b2, 0, none⟩)), (5, .pointer (some ⟨b3, 0, none⟩)), (7, .bool y5), (8, .pointer (some ⟨b13, 0, none⟩)), (9, .pointer (some ⟨b14, 0, none⟩)), (10, .pointer (some ⟨b15, 0, none⟩)), (59, .bool x25)] a ∧ Inv w0 Z w (star (pt b15 (.cells (c_ApiEvent a0).toArray 26 (0, 0))) (star (pt b14 (.cells (c_ApiEvent a0).toArray 26 (0, 0))) (star (pt b13 (.cells (c_ApiEvent x16).toArray 26 (0, 0))) (star (pt b3 (.cells (cA (Value.int .u8) a2).toArray 24 (0, 0))) (star (pt b2 (.cells (c_ApiEvent a0).toArray 26 (0, 0))) A)))))) ?_ ?_
            ·
              refine CodT.regionL [0, 1, 2, 3, 4, 5, 6, 7] (by kernel_rfl) ?_
              refine OpsT.pures (r := [1, 2, 3, 4, 5, 6, 7]) [0] [1, 3, 5, 7, 8, 9, 10, 52] (S' := [(1, .int .i64 a1), (3, .pointer (some ⟨b2, 0, none⟩)), (5, .pointer (some ⟨b3, 0, none⟩)), (7, .bool y5), (8, .pointer (some ⟨b13, 0, none⟩)), (9, .pointer (some ⟨b14, 0, none⟩)), (10, .pointer (some ⟨b15, 0, none⟩)), (52, .pointer (some ⟨b2, 0, none⟩))]) (by kernel_rfl) ?_
              refine OpsT.cons (Does.yi (Yl.load (d := 53) (T := 22) (v := .int .i64 a0.Kind) (by kernel_rfl) (ldB ty22 (l := c_ApiEvent a0) (o := 0) (v := .int .i64 a0.Kind) (pick5 _ _ _ _ _ _) (by kernel_rfl))) hI ?_)
              refine OpsT.pures (r := [4, 5, 6, 7]) [2, 3] [1, 3, 5, 7, 8, 9, 10, 55] (S' := [(1, .int .i64 a1), (3, .pointer (some ⟨b2, 0, none⟩)), (5, .pointer (some ⟨b3, 0, none⟩)), (7, .bool y5), (8, .pointer (some ⟨b13, 0, none⟩)), (9, .pointer (some ⟨b14, 0, none⟩)), (10, .pointer (some ⟨b15, 0, none⟩)), (55, .bool (a0.Kind != 1))]) (by kernel_rfl) ?_
              by_cases hb26 : (a0.Kind != 1) = true
              · rw [if_pos hb26] at h2
                refine OpsT.keep [1, 3, 5, 7, 8, 9, 10, 55] (S' := [(1, .int .i64 a1), (3, .pointer (some ⟨b2, 0, none⟩)), (5, .pointer (some ⟨b3, 0, none⟩)), (7, .bool y5), (8, .pointer (some ⟨b13, 0, none⟩)), (9, .pointer (some ⟨b14, 0, none⟩)), (10, .pointer (some ⟨b15, 0, none⟩)), (55, .bool true)]) (by (try simp only [hb26]); kernel_rfl) ?_
                refine OpsT.pures (r := [5, 6, 7]) [4] [1, 3, 5, 7, 8, 9, 10, 55, 56] (S' := [(1, .int .i64 a1), (3, .pointer (some ⟨b2, 0, none⟩)), (5, .pointer (some ⟨b3, 0, none⟩)), (7, .bool y5), (8, .pointer (some ⟨b13, 0, none⟩)), (9, .pointer (some ⟨b14, 0, none⟩)), (10, .pointer (some ⟨b15, 0, none⟩)), (55, .bool true), (56, .pointer (some ⟨b2, 0, none⟩))]) (by kernel_rfl) ?_
                refine OpsT.cons (Does.yi (Yl.load (d := 57) (T := 22) (v := .int .i64 a0.Kind) (by kernel_rfl) (ldB ty22 (l := c_ApiEvent a0) (o := 0) (v := .int .i64 a0.Kind) (pick5 _ _ _ _ _ _) (by kernel_rfl))) hI ?_)
                refine OpsT.pures (r := []) [6, 7] [1, 3, 5, 7, 8, 9, 10, 59] (S' := [(1, .int .i64 a1), (3, .pointer (some ⟨b2, 0, none⟩)), (5, .pointer (some ⟨b3, 0, none⟩)), (7, .bool y5), (8, .pointer (some ⟨b13, 0, none⟩)), (9, .pointer (some ⟨b14, 0, none⟩)), (10, .pointer (some ⟨b15, 0, none⟩)), (59, .bool (a0.Kind != 2))]) (by kernel_rfl) ?_
                refine OpsT.done ?_
                have e := someS h2
                subst e
                exact Qn.thenJ fun a ha => ⟨a0.Kind != 2, rfl, ha.keep [1, 3, 5, 7, 8, 9, 10, 59] (by kernel_rfl), hI⟩
              · rw [if_neg hb26] at h2
                have hb26 : (a0.Kind != 1) = false := by simpa using hb26
                refine OpsT.keep [1, 3, 5, 7, 8, 9, 10, 55] (S' := [(1, .int .i64 a1), (3, .pointer (some ⟨b2, 0, none⟩)), (5, .pointer (some ⟨b3, 0, none⟩)), (7, .bool y5), (8, .pointer (some ⟨b13, 0, none⟩)), (9, .pointer (some ⟨b14, 0, none⟩)), (10, .pointer (some ⟨b15, 0, none⟩)), (55, .bool false)]) (by (try simp only [hb26]); kernel_rfl) ?_
                refine OpsT.pures (r := []) [4, 5, 6, 7] [1, 3, 5, 7, 8, 9, 10, 59] (S' := [(1, .int .i64 a1), (3, .pointer (some ⟨b2, 0, none⟩)), (5, .pointer (some ⟨b3, 0, none⟩)), (7, .bool y5), (8, .pointer (some ⟨b13, 0, none⟩)), (9, .pointer (some ⟨b14, 0, none⟩)), (10, .pointer (some ⟨b15, 0, none⟩)), (59, .bool false)]) (by kernel_rfl) ?_
                refine OpsT.done ?_
                have e := someS h2
                subst e
                exact Qn.thenJ fun a ha => ⟨false, rfl, ha.keep [1, 3, 5, 7, 8, 9, 10, 59] (by kernel_rfl), hI⟩
            ·
              rintro a w ⟨x25, rfl, ha, hI⟩
              try dsimp only at h1
              refine CodT.of ?_ ha
              by_cases hb27 : x25 = true
              · rw [if_pos hb27] at h1
                refine CodT.yes' (b := x25) (by kernel_rfl) hb27 ?_
                refine CodT.regionL [0, 1, 2] (by kernel_rfl) ?_
                refine OpsT.pures (r := [2]) [0, 1] [3, 5, 7, 8, 9, 10, 60, 61] (S' := [(3, .pointer (some ⟨b2, 0, none⟩)), (5, .pointer (some ⟨b3, 0, none⟩)), (7, .bool y5), (8, .pointer (some ⟨b13, 0, none⟩)), (9, .pointer (some ⟨b14, 0, none⟩)), (10, .pointer (some ⟨b15, 0, none⟩)), (60, .int .i64 a1), (61, .pointer (some ⟨b14, 4, none⟩))]) (by kernel_rfl) ?_
                have hI := hI.mono (pick2 _ _ _)
                refine OpsT.cons (Does.storeLit (T := 3) (b := b14) (o := 4) (v := .int .i64 a1) (l := c_ApiEvent a0) (vs := ([.int .i64 a1] : List Value)) (L' := c_ApiEvent (ApiEvent.mk a0.Kind a0.ID a0.Name a0.Time a1 a0.Sum)) (by kernel_rfl) ty3 hI (by kernel_rfl) (by kernel_rfl) (by kernel_rfl) (by kernel_rfl) (by kernel_rfl) ?_)
                intro w hI
                refine OpsT.done ?_
                have hI := hI.mono (pick5 _ _ _ _ _ _)
                have hI := hI.mono (pick5 _ _ _ _ _ _)
                have hI := hI.mono (pick5 _ _ _ _ _ _)
                have hI := hI.mono (pick4 _ _ _ _ _)
                have hI := hI.mono (pick5 _ _ _ _ _ _)
                have e := someS h1
                subst e
                exact Qn.thenJ fun a ha => ⟨(ApiEvent.mk a0.Kind a0.ID a0.Name a0.Time a1 a0.Sum), rfl, ha.keep [3, 5, 7, 8, 9, 10] (by kernel_rfl), hI, hl1⟩
              · rw [if_neg hb27] at h1
                refine CodT.no' (b := x25) (by kernel_rfl) (by simpa using hb27) ?_
                refine CodT.regionL [0, 1] (by kernel_rfl) ?_
                refine OpsT.pures (r := [1]) [0] [3, 5, 7, 8, 9, 10, 62] (S' := [(3, .pointer (some ⟨b2, 0, none⟩)), (5, .pointer (some ⟨b3, 0, none⟩)), (7, .bool y5), (8, .pointer (some ⟨b13, 0, none⟩)), (9, .pointer (some ⟨b14, 0, none⟩)), (10, .pointer (some ⟨b15, 0, none⟩)), (62, .pointer (some ⟨b14, 2, none⟩))]) (by kernel_rfl) ?_
                have hI := hI.mono (pick2 _ _ _)
                refine OpsT.cons (Does.storeLit (T := 9) (b := b14) (o := 2) (v := .string (⟨#[120]⟩ : ByteArray)) (l := c_ApiEvent a0) (vs := ([.string (⟨#[120]⟩ : ByteArray)] : List Value)) (L' := c_ApiEvent (ApiEvent.mk a0.Kind a0.ID (⟨#[120]⟩ : ByteArray) a0.Time a0.Len a0.Sum)) (by kernel_rfl) ty9 hI (by kernel_rfl) (by kernel_rfl) (by kernel_rfl) (by kernel_rfl) (by kernel_rfl) ?_)
                intro w hI
                refine OpsT.done ?_
                have hI := hI.mono (pick5 _ _ _ _ _ _)
                have hI := hI.mono (pick5 _ _ _ _ _ _)
                have hI := hI.mono (pick5 _ _ _ _ _ _)
                have hI := hI.mono (pick4 _ _ _ _ _)
                have hI := hI.mono (pick5 _ _ _ _ _ _)
                have e := someS h1
                subst e
                exact Qn.thenJ fun a ha => ⟨(ApiEvent.mk a0.Kind a0.ID (⟨#[120]⟩ : ByteArray) a0.Time a0.Len a0.Sum), rfl, ha.keep [3, 5, 7, 8, 9, 10] (by kernel_rfl), hI, hl1⟩
          ·
            rintro a w ⟨x23, rfl, ha, hI, hl24⟩
            try dsimp only at h0
            refine CodT.of ?_ ha
            refine CodT.seq ?_
            refine CodT.regionL [0, 1, 2] (by kernel_rfl) ?_
            refine OpsT.cons (Does.yi (Yl.load (d := 63) (T := 24) (v := .agg (cA (Value.int .u8) a2).toArray) (by kernel_rfl) (ldBN ty24 (l := cA (Value.int .u8) a2) (o := 0) (cs := cA (Value.int .u8) a2) (pick4 _ _ _ _ _) ((cA_length _ _).trans hl_a2) (whole _ _ ((cA_length _ _).trans hl_a2)))) hI ?_)
            refine OpsT.pures (r := [2]) [1] [3, 5, 7, 8, 9, 10, 63, 64] (S' := [(3, .pointer (some ⟨b2, 0, none⟩)), (5, .pointer (some ⟨b3, 0, none⟩)), (7, .bool y5), (8, .pointer (some ⟨b13, 0, none⟩)), (9, .pointer (some ⟨b14, 0, none⟩)), (10, .pointer (some ⟨b15, 0, none⟩)), (63, .agg (cA (Value.int .u8) a2).toArray), (64, .pointer (some ⟨b15, 5, none⟩))]) (by kernel_rfl) ?_
            refine OpsT.cons (Does.storeLit (T := 24) (b := b15) (o := 5) (v := .agg (cA (Value.int .u8) a2).toArray) (l := c_ApiEvent a0) (vs := cA (Value.int .u8) a2) (L' := c_ApiEvent (ApiEvent.mk a0.Kind a0.ID a0.Name a0.Time a0.Len a2)) (by kernel_rfl) ty24 hI (by kernel_rfl) ((cA_length _ _).trans hl_a2) (by rw [(len_ApiEvent _ hl1)]; kernel_rfl) (ones_cA _) (tail_all _ _ _ _ _ (by kernel_rfl) (Eq.trans hl_a2 (Eq.symm hl1))) ?_)
            intro w hI
            refine OpsT.done ?_
            refine Qn.then ?_
            obtain ⟨r1, h1, h0⟩ := bindS h0
            refine CodT.meet (fun a w => ∃ (x28 : Bool), x28 = r1 ∧ Fr 89 [(6, .bool x28)] a ∧ Inv w0 Z w A) ?_ ?_
            ·
              refine CodT.drawI (n := 25) [] (by kernel_rfl) (by kernel_rfl) hI ?_
              intro w hI
              refine GmT.p' 0 65 (.bool y5) (by kernel_rfl) (by kernel_rfl) ?_
              refine GmT.p' 1 66 (.bool y5) (by kernel_rfl) (by kernel_rfl) ?_
              by_cases hb29 : y5 = true
              · rw [if_pos hb29] at h1
                refine GmT.keep [3, 5, 8, 9, 10, 66] (S' := [(3, .pointer (some ⟨b2, 0, none⟩)), (5, .pointer (some ⟨b3, 0, none⟩)), (8, .pointer (some ⟨b13, 0, none⟩)), (9, .pointer (some ⟨b14, 0, none⟩)), (10, .pointer (some ⟨b15, 0, none⟩)), (66, .bool true)]) (by (try simp only [hb29]); kernel_rfl) ?_
                refine GmT.r (i := 2) 2 (by kernel_rfl) (by kernel_rfl) (Yl.load (d := 67) (T := 26) (v := .agg (c_ApiEvent x16).toArray) (by kernel_rfl) (ldBN ty26 (l := c_ApiEvent x16) (o := 0) (cs := c_ApiEvent x16) (pick3 _ _ _ _) (len_ApiEvent _ hl17) (whole _ _ (len_ApiEvent _ hl17)))) hI ?_
                obtain ⟨y31, hc30, h1⟩ := bindS h1
                try dsimp only at h1
                refine GmT.o (i := 3) (by kernel_rfl) (Does.call (d := some 68) (n := 13) (vs := [.agg (c_ApiEvent x16).toArray]) (by kernel_rfl) en13 (c13 w0 w _ _ hI x16 hl17 _ hc30) ?_)
                rintro e w ⟨rfl, hI⟩
                refine ⟨_, rfl, ?_⟩
                refine ⟨fun _ _ => hI, ?_⟩
                refine GmT.p' 4 69 (.bool (!y31)) (by kernel_rfl) (by kernel_rfl) ?_
                refine GmT.p' 5 70 (.bool (!y31)) (by kernel_rfl) (by kernel_rfl) ?_
                refine GmT.p' 6 71 (.bool (!y31)) (by kernel_rfl) (by kernel_rfl) ?_
                by_cases hb32 : (!y31) = true
                · rw [if_pos hb32] at h1
                  refine GmT.keep [3, 5, 9, 10, 71] (S' := [(3, .pointer (some ⟨b2, 0, none⟩)), (5, .pointer (some ⟨b3, 0, none⟩)), (9, .pointer (some ⟨b14, 0, none⟩)), (10, .pointer (some ⟨b15, 0, none⟩)), (71, .bool true)]) (by (try simp only [hb32]); kernel_rfl) ?_
                  refine GmT.r (i := 7) 2 (by kernel_rfl) (by kernel_rfl) (Yl.load (d := 72) (T := 26) (v := .agg (c_ApiEvent x23).toArray) (by kernel_rfl) (ldBN ty26 (l := c_ApiEvent x23) (o := 0) (cs := c_ApiEvent x23) (pick2 _ _ _) (len_ApiEvent _ hl24) (whole _ _ (len_ApiEvent _ hl24)))) hI ?_
                  obtain ⟨y34, hc33, h1⟩ := bindS h1
                  try dsimp only at h1
                  refine GmT.o (i := 8) (by kernel_rfl) (Does.call (d := some 73) (n := 13) (vs := [.agg (c_ApiEvent x23).toArray]) (by kernel_rfl) en13 (c13 w0 w _ _ hI x23 hl24 _ hc33) ?_)
                  rintro e w ⟨rfl, hI⟩
                  refine ⟨_, rfl, ?_⟩
                  refine ⟨fun _ _ => hI, ?_⟩
                  refine GmT.p' 9 74 (.bool (!y34)) (by kernel_rfl) (by kernel_rfl) ?_
                  refine GmT.p' 10 75 (.bool (!y34)) (by kernel_rfl) (by kernel_rfl) ?_
                  refine GmT.p' 11 76 (.bool (!y34)) (by kernel_rfl) (by kernel_rfl) ?_
                  by_cases hb35 : (!y34) = true
                  · rw [if_pos hb35] at h1
                    refine GmT.keep [3, 5, 10, 76] (S' := [(3, .pointer (some ⟨b2, 0, none⟩)), (5, .pointer (some ⟨b3, 0, none⟩)), (10, .pointer (some ⟨b15, 0, none⟩)), (76, .bool true)]) (by (try simp only [hb35]); kernel_rfl) ?_
                    refine GmT.p' 14 79 (.pointer (some ⟨b2, 0, none⟩)) (by kernel_rfl) (by kernel_rfl) ?_
                    refine GmT.r (i := 12) 2 (by kernel_rfl) (by kernel_rfl) (Yl.load (d := 77) (T := 26) (v := .agg (c_ApiEvent (ApiEvent.mk a0.Kind a0.ID a0.Name a0.Time a0.Len a2)).toArray) (by kernel_rfl) (ldBN ty26 (l := c_ApiEvent (ApiEvent.mk a0.Kind a0.ID a0.Name a0.Time a0.Len a2)) (o := 0) (cs := c_ApiEvent (ApiEvent.mk a0.Kind a0.ID a0.Name a0.Time a0.Len a2)) (ent_refl _) (len_ApiEvent _ hl_a2) (whole _ _ (len_ApiEvent _ hl_a2)))) hI ?_
                    refine GmT.r (i := 15) 2 (by kernel_rfl) (by kernel_rfl) (Yl.load (d := 80) (T := 22) (v := .int .i64 a0.Kind) (by kernel_rfl) (ldB ty22 (l := c_ApiEvent a0) (o := 0) (v := .int .i64 a0.Kind) (pick5 _ _ _ _ _ _) (by kernel_rfl))) hI ?_
                    refine GmT.p' 16 81 (.bool (a0.Kind == 2)) (by kernel_rfl) (by kernel_rfl) ?_
                    obtain ⟨y37, hc36, h1⟩ := bindS h1
                    try dsimp only at h1
                    refine GmT.o (i := 13) (by kernel_rfl) (Does.call (d := some 78) (n := 13) (vs := [.agg (c_ApiEvent (ApiEvent.mk a0.Kind a0.ID a0.Name a0.Time a0.Len a2)).toArray]) (by kernel_rfl) en13 (c13 w0 w _ _ hI (ApiEvent.mk a0.Kind a0.ID a0.Name a0.Time a0.Len a2) hl_a2 _ hc36) ?_)
                    rintro e w ⟨rfl, hI⟩
                    refine ⟨_, rfl, ?_⟩
                    refine ⟨fun _ _ => hI, ?_⟩
                    refine GmT.p' 17 82 (.bool (a0.Kind == 2)) (by kernel_rfl) (by kernel_rfl) ?_
                    by_cases hb38 : (a0.Kind == 2) = true
                    · rw [if_pos hb38] at h1
                      refine GmT.keep [5, 76, 78, 82] (S' := [(5, .pointer (some ⟨b3, 0, none⟩)), (76, .bool true), (78, .bool y37), (82, .bool true)]) (by (try simp only [hb38]); kernel_rfl) ?_
                      refine GmT.p' 18 83 (undef) (by kernel_rfl) (by kernel_rfl) ?_
                      refine GmT.p' 19 84 (undef) (by kernel_rfl) (by kernel_rfl) ?_
                      refine GmT.p' 20 85 (undef) (by kernel_rfl) (by kernel_rfl) ?_
                      refine GmT.p' 21 86 (.bool true) (by kernel_rfl) (by kernel_rfl) ?_
                      refine GmT.p' 22 87 (.bool (y37 == true)) (by kernel_rfl) (by kernel_rfl) ?_
                      refine GmT.p' 23 88 (.bool (y37 == true)) (by kernel_rfl) (by kernel_rfl) ?_
                      refine GmT.p' 24 6 (.bool (y37 == true)) (by kernel_rfl) (by kernel_rfl) ?_
                      refine GmT.done (by kernel_rfl) ?_
                      have hI := hI.drop
                      have hI := hI.drop
                      have hI := hI.drop
                      have hI := hI.drop
                      have hI := hI.drop
                      have e := someS h1
                      subst e
                      exact Qn.thenJ fun a ha => ⟨y37 == true, rfl, ha.keep [6] (by kernel_rfl), hI⟩
                    · rw [if_neg hb38] at h1
                      have hb38 : (a0.Kind == 2) = false := by simpa using hb38
                      refine GmT.keep [5, 76, 78, 82] (S' := [(5, .pointer (some ⟨b3, 0, none⟩)), (76, .bool true), (78, .bool y37), (82, .bool false)]) (by (try simp only [hb38]); kernel_rfl) ?_
                      refine GmT.p' 19 84 (.agg (cA (Value.int .u8) ([0, 0, 0, 0, 0, 0, 0, 0, 0, 0, 0, 0, 0, 0, 0, 0, 0, 0, 0, 0, 0, 0, 0, 0, 0, 0, 0, 0, 0, 0, 0, 0] : List Int)).toArray) (by kernel_rfl) (by kernel_rfl) ?_
                      refine GmT.r (i := 18) 2 (by kernel_rfl) (by kernel_rfl) (Yl.load (d := 83) (T := 24) (v := .agg (cA (Value.int .u8) a2).toArray) (by kernel_rfl) (ldBN ty24 (l := cA (Value.int .u8) a2) (o := 0) (cs := cA (Value.int .u8) a2) (pick4 _ _ _ _ _) ((cA_length _ _).trans hl_a2) (whole _ _ ((cA_length _ _).trans hl_a2)))) hI ?_
                      refine GmT.r (i := 20) 2 (by kernel_rfl) (by kernel_rfl) (Yl.eqlA (k := .u8) (d := 85) (T := 24) (xs := a2) (ys := ([0, 0, 0, 0, 0, 0, 0, 0, 0, 0, 0, 0, 0, 0, 0, 0, 0, 0, 0, 0, 0, 0, 0, 0, 0, 0, 0, 0, 0, 0, 0, 0] : List Int)) (by kernel_rfl) Go.Proofs.Try.underlying24 (by kernel_rfl) Go.Proofs.Try.underlying5 ty5 hl_a2 (by kernel_rfl)) hI ?_
                      refine GmT.p' 21 86 (.bool (eqA a2 ([0, 0, 0, 0, 0, 0, 0, 0, 0, 0, 0, 0, 0, 0, 0, 0, 0, 0, 0, 0, 0, 0, 0, 0, 0, 0, 0, 0, 0, 0, 0, 0] : List Int))) (by kernel_rfl) (by kernel_rfl) ?_
                      refine GmT.p' 22 87 (.bool (y37 == (eqA a2 ([0, 0, 0, 0, 0, 0, 0, 0, 0, 0, 0, 0, 0, 0, 0, 0, 0, 0, 0, 0, 0, 0, 0, 0, 0, 0, 0, 0, 0, 0, 0, 0] : List Int)))) (by kernel_rfl) (by kernel_rfl) ?_
                      refine GmT.p' 23 88 (.bool (y37 == (eqA a2 ([0, 0, 0, 0, 0, 0, 0, 0, 0, 0, 0, 0, 0, 0, 0, 0, 0, 0, 0, 0, 0, 0, 0, 0, 0, 0, 0, 0, 0, 0, 0, 0] : List Int)))) (by kernel_rfl) (by kernel_rfl) ?_
                      refine GmT.p' 24 6 (.bool (y37 == (eqA a2 ([0, 0, 0, 0, 0, 0, 0, 0, 0, 0, 0, 0, 0, 0, 0, 0, 0, 0, 0, 0, 0, 0, 0, 0, 0, 0, 0, 0, 0, 0, 0, 0] : List Int)))) (by kernel_rfl) (by kernel_rfl) ?_
                      refine GmT.done (by kernel_rfl) ?_
                      have hI := hI.drop
                      have hI := hI.drop
                      have hI := hI.drop
                      have hI := hI.drop
                      have hI := hI.drop
                      have e := someS h1
                      subst e
                      exact Qn.thenJ fun a ha => ⟨y37 == (eqA a2 ([0, 0, 0, 0, 0, 0, 0, 0, 0, 0, 0, 0, 0, 0, 0, 0, 0, 0, 0, 0, 0, 0, 0, 0, 0, 0, 0, 0, 0, 0, 0, 0] : List Int)), rfl, ha.keep [6] (by kernel_rfl), hI⟩
                  · rw [if_neg hb35] at h1
                    have hb35 : (!y34) = false := by simpa using hb35
                    refine GmT.keep [3, 5, 10, 76] (S' := [(3, .pointer (some ⟨b2, 0, none⟩)), (5, .pointer (some ⟨b3, 0, none⟩)), (10, .pointer (some ⟨b15, 0, none⟩)), (76, .bool false)]) (by (try simp only [hb35]); kernel_rfl) ?_
                    refine GmT.p' 12 77 (undef) (by kernel_rfl) (by kernel_rfl) ?_
                    refine GmT.p' 13 78 (undef) (by kernel_rfl) (by kernel_rfl) ?_
                    refine GmT.p' 14 79 (undef) (by kernel_rfl) (by kernel_rfl) ?_
                    refine GmT.p' 15 80 (undef) (by kernel_rfl) (by kernel_rfl) ?_
                    refine GmT.p' 16 81 (undef) (by kernel_rfl) (by kernel_rfl) ?_
                    refine GmT.p' 17 82 (undef) (by kernel_rfl) (by kernel_rfl) ?_
                    refine GmT.p' 18 83 (undef) (by kernel_rfl) (by kernel_rfl) ?_
                    refine GmT.p' 19 84 (undef) (by kernel_rfl) (by kernel_rfl) ?_
                    refine GmT.p' 20 85 (undef) (by kernel_rfl) (by kernel_rfl) ?_
                    refine GmT.p' 21 86 (undef) (by kernel_rfl) (by kernel_rfl) ?_
                    refine GmT.p' 22 87 (undef) (by kernel_rfl) (by kernel_rfl) ?_
                    refine GmT.p' 23 88 (.bool false) (by kernel_rfl) (by kernel_rfl) ?_
                    refine GmT.p' 24 6 (.bool false) (by kernel_rfl) (by kernel_rfl) ?_
                    refine GmT.done (by kernel_rfl) ?_
                    have hI := hI.drop
                    have hI := hI.drop
                    have hI := hI.drop
                    have hI := hI.drop
                    have hI := hI.drop
                    have e := someS h1
                    subst e
                    exact Qn.thenJ fun a ha => ⟨false, rfl, ha.keep [6] (by kernel_rfl), hI⟩
                · rw [if_neg hb32] at h1
                  have hb32 : (!y31) = false := by simpa using hb32
                  refine GmT.keep [3, 5, 9, 10, 71] (S' := [(3, .pointer (some ⟨b2, 0, none⟩)), (5, .pointer (some ⟨b3, 0, none⟩)), (9, .pointer (some ⟨b14, 0, none⟩)), (10, .pointer (some ⟨b15, 0, none⟩)), (71, .bool false)]) (by (try simp only [hb32]); kernel_rfl) ?_
                  refine GmT.p' 7 72 (undef) (by kernel_rfl) (by kernel_rfl) ?_
                  refine GmT.p' 8 73 (undef) (by kernel_rfl) (by kernel_rfl) ?_
                  refine GmT.p' 9 74 (undef) (by kernel_rfl) (by kernel_rfl) ?_
                  refine GmT.p' 10 75 (.bool false) (by kernel_rfl) (by kernel_rfl) ?_
                  refine GmT.p' 11 76 (.bool false) (by kernel_rfl) (by kernel_rfl) ?_
                  refine GmT.p' 12 77 (undef) (by kernel_rfl) (by kernel_rfl) ?_
                  refine GmT.p' 13 78 (undef) (by kernel_rfl) (by kernel_rfl) ?_
                  refine GmT.p' 14 79 (undef) (by kernel_rfl) (by kernel_rfl) ?_
                  refine GmT.p' 15 80 (undef) (by kernel_rfl) (by kernel_rfl) ?_
                  refine GmT.p' 16 81 (undef) (by kernel_rfl) (by kernel_rfl) ?_
                  refine GmT.p' 17 82 (undef) (by kernel_rfl) (by kernel_rfl) ?_
                  refine GmT.p' 18 83 (undef) (by kernel_rfl) (by kernel_rfl) ?_
                  refine GmT.p' 19 84 (undef) (by kernel_rfl) (by kernel_rfl) ?_
                  refine GmT.p' 20 85 (undef) (by kernel_rfl) (by kernel_rfl) ?_
                  refine GmT.p' 21 86 (undef) (by kernel_rfl) (by kernel_rfl) ?_
                  refine GmT.p' 22 87 (undef) (by kernel_rfl) (by kernel_rfl) ?_
                  refine GmT.p' 23 88 (.bool false) (by kernel_rfl) (by kernel_rfl) ?_
                  refine GmT.p' 24 6 (.bool false) (by kernel_rfl) (by kernel_rfl) ?_
                  refine GmT.done (by kernel_rfl) ?_
                  have hI := hI.drop
                  have hI := hI.drop
                  have hI := hI.drop
                  have hI := hI.drop
                  have hI := hI.drop
                  have e := someS h1
                  subst e
                  exact Qn.thenJ fun a ha => ⟨false, rfl, ha.keep [6] (by kernel_rfl), hI⟩
              · rw [if_neg hb29] at h1
                have hb29 : y5 = false := by simpa using hb29
                refine GmT.keep [3, 5, 8, 9, 10, 66] (S' := [(3, .pointer (some ⟨b2, 0, none⟩)), (5, .pointer (some ⟨b3, 0, none⟩)), (8, .pointer (some ⟨b13, 0, none⟩)), (9, .pointer (some ⟨b14, 0, none⟩)), (10, .pointer (some ⟨b15, 0, none⟩)), (66, .bool false)]) (by (try simp only [hb29]); kernel_rfl) ?_
                refine GmT.p' 2 67 (undef) (by kernel_rfl) (by kernel_rfl) ?_
                refine GmT.p' 3 68 (undef) (by kernel_rfl) (by kernel_rfl) ?_
                refine GmT.p' 4 69 (undef) (by kernel_rfl) (by kernel_rfl) ?_
                refine GmT.p' 5 70 (.bool false) (by kernel_rfl) (by kernel_rfl) ?_
                refine GmT.p' 6 71 (.bool false) (by kernel_rfl) (by kernel_rfl) ?_
                refine GmT.p' 7 72 (undef) (by kernel_rfl) (by kernel_rfl) ?_
                refine GmT.p' 8 73 (undef) (by kernel_rfl) (by kernel_rfl) ?_
                refine GmT.p' 9 74 (undef) (by kernel_rfl) (by kernel_rfl) ?_
                refine GmT.p' 10 75 (.bool false) (by kernel_rfl) (by kernel_rfl) ?_
                refine GmT.p' 11 76 (.bool false) (by kernel_rfl) (by kernel_rfl) ?_
                refine GmT.p' 12 77 (undef) (by kernel_rfl) (by kernel_rfl) ?_
                refine GmT.p' 13 78 (undef) (by kernel_rfl) (by kernel_rfl) ?_
                refine GmT.p' 14 79 (undef) (by kernel_rfl) (by kernel_rfl) ?_
                refine GmT.p' 15 80 (undef) (by kernel_rfl) (by kernel_rfl) ?_
                refine GmT.p' 16 81 (undef) (by kernel_rfl) (by kernel_rfl) ?_
                refine GmT.p' 17 82 (undef) (by kernel_rfl) (by kernel_rfl) ?_
                refine GmT.p' 18 83 (undef) (by kernel_rfl) (by kernel_rfl) ?_
                refine GmT.p' 19 84 (undef) (by kernel_rfl) (by kernel_rfl) ?_
                refine GmT.p' 20 85 (undef) (by kernel_rfl) (by kernel_rfl) ?_
                refine GmT.p' 21 86 (undef) (by kernel_rfl) (by kernel_rfl) ?_
                refine GmT.p' 22 87 (undef) (by kernel_rfl) (by kernel_rfl) ?_
                refine GmT.p' 23 88 (.bool false) (by kernel_rfl) (by kernel_rfl) ?_
                refine GmT.p' 24 6 (.bool false) (by kernel_rfl) (by kernel_rfl) ?_
                refine GmT.done (by kernel_rfl) ?_
                have hI := hI.drop
                have hI := hI.drop
                have hI := hI.drop
                have hI := hI.drop
                have hI := hI.drop
                have e := someS h1
                subst e
                exact Qn.thenJ fun a ha => ⟨false, rfl, ha.keep [6] (by kernel_rfl), hI⟩
            ·
              rintro a w ⟨x28, rfl, ha, hI⟩
              try dsimp only at h0
              refine CodT.of ?_ ha
              refine CodT.ret ?_
              have e := someS h0
              subst e
              refine Qn.keep [6] (S' := [(6, .bool x28)]) (by kernel_rfl) ?_
              exact post_ret (v := .bool x28) (fun a ha => RunRes.run (vs := [.bool x28]) (.tmp (t := 6) (by kernel_rfl) .nil) ha (by kernel_rfl)) ⟨rfl, hI⟩
end Go.Cen
