/- The walk of the law EventBack, printed by a program of ours. -/
import Derived.Test.YthdoklobbcedcadPx
import Derived.Test.YthdoklobbcedcadWx2
set_option linter.unusedVariables false
set_option linter.unusedSimpArgs false
namespace Go.Cen
set_option maxRecDepth 100000 in
set_option maxHeartbeats 4000000 in
/-- cenotaph/cenotaphlaw05.EventBack -/
theorem c5 (w0 w : World) (Z : Hp) (A : HP) (hI : Inv w0 Z w A) (a0 : ApiEvent) (hl1 : a0.Sum.length = 32) (a1 : ByteArray) (r : Bool) (h0 : law05_EventBack a0 a1 = some r) :
    Calls prog 5 #[.agg (c_ApiEvent a0).toArray, .string a1] w (fun e w' => e = .returned (.bool r) ∧ Inv w0 Z w' A) := by
  have e4 := calls_intro (R := (fun e w' => e = .returned (.bool r) ∧ Inv w0 Z w' A)) (w := w) (args := [.agg (c_ApiEvent a0).toArray, .string a1]) (fn := Go.Proofs.Try.f5) 97 Go.Proofs.Try.func5 (by rfl) Go.Proofs.Try.ntmps5 (by kernel_rfl)
  refine e4 ?_
  clear e4
  unfold law05_EventBack at h0
  refine CodT.seq ?_
  refine CodT.regionL [0, 1] (by kernel_rfl) ?_
  refine OpsT.cons (Does.boxL (d := 2) (T := 26) (v := .agg (c_ApiEvent a0).toArray) (c_ApiEvent a0) (by kernel_rfl) hI (by kernel_rfl) ?_)
  intro b2 w hI
  refine OpsT.pures (r := []) [1] [1, 2] (S' := [(1, .string a1), (2, .pointer (some ⟨b2, 0, none⟩))]) (by kernel_rfl) ?_
  refine OpsT.done ?_
  refine Qn.then ?_
  refine CodT.seq ?_
  refine CodT.regionL [0, 1] (by kernel_rfl) ?_
  obtain ⟨y4, hc3, h0⟩ := bindS h0
  try dsimp only at h0
  refine OpsT.cons (Does.call (d := some 16) (n := 9) (vs := []) (by kernel_rfl) en9 (c9 w0 w _ _ hI _ hc3) ?_)
  rintro e w ⟨rfl, hI⟩
  refine ⟨_, rfl, ?_⟩
  refine OpsT.pures (r := []) [1] [1, 2, 5] (S' := [(1, .string a1), (2, .pointer (some ⟨b2, 0, none⟩)), (5, .bool y4)]) (by kernel_rfl) ?_
  refine OpsT.done ?_
  refine Qn.then ?_
  refine CodT.seq ?_
  refine CodT.seq ?_
  refine CodT.regionL [0, 1] (by kernel_rfl) ?_
  refine OpsT.pures (r := []) [0, 1] [1, 2, 5, 18] (S' := [(1, .string a1), (2, .pointer (some ⟨b2, 0, none⟩)), (5, .bool y4), (18, .bool (!y4))]) (by kernel_rfl) ?_
  refine OpsT.done ?_
  refine Qn.then ?_
  by_cases hb5 : (!y4) = true
  · rw [if_pos hb5] at h0
    refine CodT.yes' (b := !y4) (by kernel_rfl) hb5 ?_
    refine CodT.seq ?_
    refine CodT.regionL [0] (by kernel_rfl) ?_
    refine OpsT.pures (r := []) [0] [4] (S' := [(4, .bool false)]) (by kernel_rfl) ?_
    refine OpsT.done ?_
    refine Qn.then ?_
    refine CodT.ret ?_
    refine Qn.ret_then ?_
    have hI := hI.drop
    have e := someS h0
    subst e
    refine Qn.keep [4] (S' := [(4, .bool false)]) (by kernel_rfl) ?_
    exact post_ret (v := .bool false) (fun a ha => RunRes.run (vs := [.bool false]) (.tmp (t := 4) (by kernel_rfl) .nil) ha (by kernel_rfl)) ⟨rfl, hI⟩
  · rw [if_neg hb5] at h0
    refine CodT.no' (b := !y4) (by kernel_rfl) (by simpa using hb5) ?_
    refine CodT.skip ?_
    refine Qn.then ?_
    refine CodT.seq ?_
    obtain ⟨r1, h1, h0⟩ := bindS h0
    refine CodT.meet (fun a w => ∃ (x6 : Bool), x6 = r1 ∧ Fr 97 [(1, .string a1), (2, .pointer (some ⟨b2, 0, none⟩)), (5, .bool y4), (27, .bool x6)] a ∧ Inv w0 Z w (star (pt b2 (.cells (c_ApiEvent a0).toArray 26 (0, 0))) A)) ?_ ?_
    ·
      refine CodT.regionL [0, 1, 2, 3, 4, 5, 6, 7, 8] (by kernel_rfl) ?_
      refine OpsT.pures (r := [1, 2, 3, 4, 5, 6, 7, 8]) [0] [1, 2, 5, 19] (S' := [(1, .string a1), (2, .pointer (some ⟨b2, 0, none⟩)), (5, .bool y4), (19, .pointer (some ⟨b2, 2, none⟩))]) (by kernel_rfl) ?_
      refine OpsT.cons (Does.yi (Yl.load (d := 20) (T := 9) (v := .string a0.Name) (by kernel_rfl) (ldB ty9 (l := c_ApiEvent a0) (o := 2) (v := .string a0.Name) (ent_refl _) (by kernel_rfl))) hI ?_)
      refine OpsT.pures (r := [5, 6, 7, 8]) [2, 3, 4] [1, 2, 5, 23] (S' := [(1, .string a1), (2, .pointer (some ⟨b2, 0, none⟩)), (5, .bool y4), (23, .bool (decide ((a0.Name.size : Int) > 300)))]) (by kernel_rfl) ?_
      by_cases hb7 : (decide ((a0.Name.size : Int) > 300)) = true
      · rw [if_pos hb7] at h1
        refine OpsT.keep [1, 2, 5, 23] (S' := [(1, .string a1), (2, .pointer (some ⟨b2, 0, none⟩)), (5, .bool y4), (23, .bool true)]) (by (try simp only [hb7]); kernel_rfl) ?_
        refine OpsT.pures (r := []) [5, 6, 7, 8] [1, 2, 5, 27] (S' := [(1, .string a1), (2, .pointer (some ⟨b2, 0, none⟩)), (5, .bool y4), (27, .bool true)]) (by kernel_rfl) ?_
        refine OpsT.done ?_
        have e := someS h1
        subst e
        exact Qn.thenJ fun a ha => ⟨true, rfl, ha.keep [1, 2, 5, 27] (by kernel_rfl), hI⟩
      · rw [if_neg hb7] at h1
        have hb7 : (decide ((a0.Name.size : Int) > 300)) = false := by simpa using hb7
        refine OpsT.keep [1, 2, 5, 23] (S' := [(1, .string a1), (2, .pointer (some ⟨b2, 0, none⟩)), (5, .bool y4), (23, .bool false)]) (by (try simp only [hb7]); kernel_rfl) ?_
        refine OpsT.pures (r := []) [5, 6, 7, 8] [1, 2, 5, 27] (S' := [(1, .string a1), (2, .pointer (some ⟨b2, 0, none⟩)), (5, .bool y4), (27, .bool (decide ((a1.size : Int) > 300)))]) (by kernel_rfl) ?_
        refine OpsT.done ?_
        have e := someS h1
        subst e
        exact Qn.thenJ fun a ha => ⟨decide ((a1.size : Int) > 300), rfl, ha.keep [1, 2, 5, 27] (by kernel_rfl), hI⟩
    ·
      rintro a w ⟨x6, rfl, ha, hI⟩
      try dsimp only at h0
      refine CodT.of ?_ ha
      by_cases hb8 : x6 = true
      · rw [if_pos hb8] at h0
        refine CodT.yes' (b := x6) (by kernel_rfl) hb8 ?_
        refine CodT.seq ?_
        refine CodT.regionL [0, 1] (by kernel_rfl) ?_
        refine OpsT.pures (r := []) [0, 1] [4] (S' := [(4, .bool y4)]) (by kernel_rfl) ?_
        refine OpsT.done ?_
        refine Qn.then ?_
        refine CodT.ret ?_
        refine Qn.ret_then ?_
        have hI := hI.drop
        have e := someS h0
        subst e
        refine Qn.keep [4] (S' := [(4, .bool y4)]) (by kernel_rfl) ?_
        exact post_ret (v := .bool y4) (fun a ha => RunRes.run (vs := [.bool y4]) (.tmp (t := 4) (by kernel_rfl) .nil) ha (by kernel_rfl)) ⟨rfl, hI⟩
      · rw [if_neg hb8] at h0
        refine CodT.no' (b := x6) (by kernel_rfl) (by simpa using hb8) ?_
        refine CodT.skip ?_
        refine Qn.then ?_
        refine CodT.seq ?_
        refine CodT.regionL [0, 1, 2, 3, 4, 5, 6] (by kernel_rfl) ?_
        refine OpsT.cons (Does.yi (Yl.load (d := 30) (T := 26) (v := .agg (c_ApiEvent a0).toArray) (by kernel_rfl) (ldBN ty26 (l := c_ApiEvent a0) (o := 0) (cs := c_ApiEvent a0) (ent_refl _) (len_ApiEvent _ hl1) (whole _ _ (len_ApiEvent _ hl1)))) hI ?_)
        obtain ⟨⟨y10, y11⟩, hc9, h0⟩ := bindS h0
        try dsimp only at h0
        refine OpsT.cons (Does.call (d := some 31) (n := 10) (vs := [.agg (c_ApiEvent a0).toArray]) (by kernel_rfl) en10 (c10 w0 w _ _ hI a0 hl1 _ hc9) ?_)
        rintro e w ⟨rfl, hI⟩
        refine ⟨_, rfl, ?_⟩
        refine OpsT.pures (r := []) [2, 3, 4, 5, 6] [1, 2, 5, 6, 7] (S' := [(1, .string a1), (2, .pointer (some ⟨b2, 0, none⟩)), (5, .bool y4), (6, .string y10), (7, .bool y11)]) (by kernel_rfl) ?_
        refine OpsT.done ?_
        refine Qn.then ?_
        refine CodT.seq ?_
        refine CodT.seq ?_
        refine CodT.regionL [0, 1, 2, 3] (by kernel_rfl) ?_
        refine OpsT.pures (r := [1, 2, 3]) [0] [1, 2, 5, 6, 7, 34] (S' := [(1, .string a1), (2, .pointer (some ⟨b2, 0, none⟩)), (5, .bool y4), (6, .string y10), (7, .bool y11), (34, .bool y11)]) (by kernel_rfl) ?_
        refine OpsT.cons (Does.yi (Yl.load (d := 35) (T := 26) (v := .agg (c_ApiEvent a0).toArray) (by kernel_rfl) (ldBN ty26 (l := c_ApiEvent a0) (o := 0) (cs := c_ApiEvent a0) (ent_refl _) (len_ApiEvent _ hl1) (whole _ _ (len_ApiEvent _ hl1)))) hI ?_)
        obtain ⟨y13, hc12, h0⟩ := bindS h0
        try dsimp only at h0
        refine OpsT.cons (Does.call (d := some 36) (n := 13) (vs := [.agg (c_ApiEvent a0).toArray]) (by kernel_rfl) en13 (c13 w0 w _ _ hI a0 hl1 _ hc12) ?_)
        rintro e w ⟨rfl, hI⟩
        refine ⟨_, rfl, ?_⟩
        refine OpsT.pures (r := []) [3] [1, 2, 5, 6, 7, 37] (S' := [(1, .string a1), (2, .pointer (some ⟨b2, 0, none⟩)), (5, .bool y4), (6, .string y10), (7, .bool y11), (37, .bool (y11 != y13))]) (by kernel_rfl) ?_
        refine OpsT.done ?_
        refine Qn.then ?_
        by_cases hb14 : (y11 != y13) = true
        · rw [if_pos hb14] at h0
          refine CodT.yes' (b := y11 != y13) (by kernel_rfl) hb14 ?_
          refine CodT.seq ?_
          refine CodT.regionL [0] (by kernel_rfl) ?_
          refine OpsT.pures (r := []) [0] [4] (S' := [(4, .bool false)]) (by kernel_rfl) ?_
          refine OpsT.done ?_
          refine Qn.then ?_
          refine CodT.ret ?_
          refine Qn.ret_then ?_
          have hI := hI.drop
          have e := someS h0
          subst e
          refine Qn.keep [4] (S' := [(4, .bool false)]) (by kernel_rfl) ?_
          exact post_ret (v := .bool false) (fun a ha => RunRes.run (vs := [.bool false]) (.tmp (t := 4) (by kernel_rfl) .nil) ha (by kernel_rfl)) ⟨rfl, hI⟩
        · rw [if_neg hb14] at h0
          refine CodT.no' (b := y11 != y13) (by kernel_rfl) (by simpa using hb14) ?_
          refine CodT.skip ?_
          refine Qn.then ?_
          obtain ⟨r1, h1, h0⟩ := bindS h0
          refine CodT.meet (fun a w => .inr () = r1 ∧ Fr 97 [(1, .string a1), (5, .bool y4)] a ∧ Inv w0 Z w A) ?_ ?_
          ·
            refine CodT.seq ?_
            refine CodT.regionL [0] (by kernel_rfl) ?_
            refine OpsT.pures (r := []) [0] [1, 2, 5, 6, 38] (S' := [(1, .string a1), (2, .pointer (some ⟨b2, 0, none⟩)), (5, .bool y4), (6, .string y10), (38, .bool y11)]) (by kernel_rfl) ?_
            refine OpsT.done ?_
            refine Qn.then ?_
            by_cases hb15 : y11 = true
            · rw [if_pos hb15] at h1
              refine CodT.yes' (b := y11) (by kernel_rfl) hb15 ?_
              refine CodT.seq ?_
              refine CodT.regionL [0, 1, 2, 3, 4, 5, 6, 7, 8, 9, 10, 11] (by kernel_rfl) ?_
              refine OpsT.pures (r := [2, 3, 4, 5, 6, 7, 8, 9, 10, 11]) [0, 1] [1, 2, 5, 40, 41] (S' := [(1, .string a1), (2, .pointer (some ⟨b2, 0, none⟩)), (5, .bool y4), (40, .string y10), (41, .string a1)]) (by kernel_rfl) ?_
              obtain ⟨hg16, h1⟩ := guardS h1
              refine OpsT.cons (Does.yi (Yl.cat (d := 42) (T := 9) (x := y10) (y := a1) (by kernel_rfl) hg16) hI ?_)
              obtain ⟨⟨y18, y20, y21⟩, hc17, h1⟩ := bindS h1
              try dsimp only at h1
              refine OpsT.cons (Does.call (d := some 43) (n := 16) (vs := [.string (y10 ++ a1)]) (by kernel_rfl) en16 (c16 w0 w _ _ hI (y10 ++ a1) _ hc17) ?_)
              rintro e w ⟨rfl, hl19, hI⟩
              refine ⟨_, rfl, ?_⟩
              refine OpsT.pures (r := [8, 9, 10, 11]) [4, 5, 6, 7] [1, 2, 5, 44, 45, 46] (S' := [(1, .string a1), (2, .pointer (some ⟨b2, 0, none⟩)), (5, .bool y4), (44, .agg (c_ApiEvent y18).toArray), (45, .string y20), (46, .bool y21)]) (by kernel_rfl) ?_
              refine OpsT.cons (Does.allocL (d := 8) (T := 26) (c_ApiEvent (ApiEvent.mk 0 0 (⟨#[]⟩ : ByteArray) 0 0 (List.replicate 32 (0 : Int)))) (by kernel_rfl) ty26 hI (by kernel_rfl) ?_)
              intro b22 w hI
              refine OpsT.cons (Does.storeLit (T := 26) (b := b22) (o := 0) (v := .agg (c_ApiEvent y18).toArray) (l := c_ApiEvent (ApiEvent.mk 0 0 (⟨#[]⟩ : ByteArray) 0 0 (List.replicate 32 (0 : Int)))) (vs := c_ApiEvent y18) (L' := c_ApiEvent y18) (by kernel_rfl) ty26 hI (by kernel_rfl) (len_ApiEvent _ hl19) (by rw [(len_ApiEvent _ (by kernel_rfl))]; kernel_rfl) (ones_app _ _ (by kernel_rfl) (ones_cA _)) (lset_all _ _ (Eq.trans (len_ApiEvent _ hl19) (Eq.symm (len_ApiEvent _ (by kernel_rfl))))) ?_)
              intro w hI
              refine OpsT.pures (r := []) [10, 11] [1, 2, 5, 8, 9, 10] (S' := [(1, .string a1), (2, .pointer (some ⟨b2, 0, none⟩)), (5, .bool y4), (8, .pointer (some ⟨b22, 0, none⟩)), (9, .string y20), (10, .bool y21)]) (by kernel_rfl) ?_
              refine OpsT.done ?_
              refine Qn.then ?_
              obtain ⟨r2, h2, h1⟩ := bindS h1
              refine CodT.meet (fun a w => ∃ (x23 : Bool), x23 = r2 ∧ Fr 97 [(1, .string a1), (5, .bool y4), (58, .bool x23)] a ∧ Inv w0 Z w A) ?_ ?_
              ·
                refine CodT.regionL [0, 1, 2, 3, 4, 5, 6, 7, 8, 9, 10, 11] (by kernel_rfl) ?_
                refine OpsT.cons (Does.yi (Yl.load (d := 47) (T := 26) (v := .agg (c_ApiEvent y18).toArray) (by kernel_rfl) (ldBN ty26 (l := c_ApiEvent y18) (o := 0) (cs := c_ApiEvent y18) (ent_refl _) (len_ApiEvent _ hl19) (whole _ _ (len_ApiEvent _ hl19)))) hI ?_)
                refine OpsT.cons (Does.yi (Yl.load (d := 48) (T := 26) (v := .agg (c_ApiEvent a0).toArray) (by kernel_rfl) (ldBN ty26 (l := c_ApiEvent a0) (o := 0) (cs := c_ApiEvent a0) (pick2 _ _ _) (len_ApiEvent _ hl1) (whole _ _ (len_ApiEvent _ hl1)))) hI ?_)
                refine OpsT.cons (Does.yi (Yl.neqS (d := 49) (T := 26) (xs := ([.int .i64 y18.Kind, .int .i64 y18.ID, .string y18.Name, .int .i64 y18.Time, .int .i64 y18.Len] : List Value) ++ (cA (Value.int .u8) y18.Sum)) (ys := ([.int .i64 a0.Kind, .int .i64 a0.ID, .string a0.Name, .int .i64 a0.Time, .int .i64 a0.Len] : List Value) ++ (cA (Value.int .u8) a0.Sum)) (r := eq_ApiEvent y18 a0) (by kernel_rfl) Go.Proofs.Try.underlying26 (by kernel_rfl) (by kernel_rfl) (.cons rfl (part1 (v := .int .i64 y18.Kind) ty22 (by kernel_rfl)) (part1 (v := .int .i64 a0.Kind) ty22 (by kernel_rfl)) (eqI Go.Proofs.Try.underlying22) (.cons rfl (part1 (v := .int .i64 y18.ID) ty3 (by kernel_rfl)) (part1 (v := .int .i64 a0.ID) ty3 (by kernel_rfl)) (eqI Go.Proofs.Try.underlying3) (.cons rfl (part1 (v := .string y18.Name) ty9 (by kernel_rfl)) (part1 (v := .string a0.Name) ty9 (by kernel_rfl)) (eqS Go.Proofs.Try.underlying9) (.cons rfl (part1 (v := .int .i64 y18.Time) ty3 (by kernel_rfl)) (part1 (v := .int .i64 a0.Time) ty3 (by kernel_rfl)) (eqI Go.Proofs.Try.underlying3) (.cons rfl (part1 (v := .int .i64 y18.Len) ty3 (by kernel_rfl)) (part1 (v := .int .i64 a0.Len) ty3 (by kernel_rfl)) (eqI Go.Proofs.Try.underlying3) (.cons rfl (partN ty24 (tail_take _ _ _ _ _ (by kernel_rfl) hl19)) (partN ty24 (tail_take _ _ _ _ _ (by kernel_rfl) hl1)) (eqAr Go.Proofs.Try.underlying24 Go.Proofs.Try.underlying5 ty5 hl19 hl1) .nil))))))) hI ?_)
                refine OpsT.pures (r := [4, 5, 6, 7, 8, 9, 10, 11]) [3] [1, 5, 9, 10, 50] (S' := [(1, .string a1), (5, .bool y4), (9, .string y20), (10, .bool y21), (50, .bool (!(eq_ApiEvent y18 a0)))]) (by kernel_rfl) ?_
                by_cases hb24 : (!(eq_ApiEvent y18 a0)) = true
                · rw [if_pos hb24] at h2
                  refine OpsT.keep [1, 5, 9, 10, 50] (S' := [(1, .string a1), (5, .bool y4), (9, .string y20), (10, .bool y21), (50, .bool true)]) (by (try simp only [hb24]); kernel_rfl) ?_
                  refine OpsT.pures (r := []) [4, 5, 6, 7, 8, 9, 10, 11] [1, 5, 58] (S' := [(1, .string a1), (5, .bool y4), (58, .bool true)]) (by kernel_rfl) ?_
                  refine OpsT.done ?_
                  have hI := hI.drop
                  have hI := hI.drop
                  have e := someS h2
                  subst e
                  exact Qn.thenJ fun a ha => ⟨true, rfl, ha.keep [1, 5, 58] (by kernel_rfl), hI⟩
                · rw [if_neg hb24] at h2
                  have hb24 : (!(eq_ApiEvent y18 a0)) = false := by simpa using hb24
                  refine OpsT.keep [1, 5, 9, 10, 50] (S' := [(1, .string a1), (5, .bool y4), (9, .string y20), (10, .bool y21), (50, .bool false)]) (by (try simp only [hb24]); kernel_rfl) ?_
                  refine OpsT.pures (r := [9, 10, 11]) [4, 5, 6, 7, 8] [1, 5, 10, 55] (S' := [(1, .string a1), (5, .bool y4), (10, .bool y21), (55, .bool (!(seq y20 a1)))]) (by kernel_rfl) ?_
                  by_cases hb25 : (!(seq y20 a1)) = true
                  · rw [if_pos hb25] at h2
                    refine OpsT.keep [1, 5, 10, 55] (S' := [(1, .string a1), (5, .bool y4), (10, .bool y21), (55, .bool true)]) (by (try simp only [hb25]); kernel_rfl) ?_
                    refine OpsT.pures (r := []) [9, 10, 11] [1, 5, 58] (S' := [(1, .string a1), (5, .bool y4), (58, .bool true)]) (by kernel_rfl) ?_
                    refine OpsT.done ?_
                    have hI := hI.drop
                    have hI := hI.drop
                    have e := someS h2
                    subst e
                    exact Qn.thenJ fun a ha => ⟨true, rfl, ha.keep [1, 5, 58] (by kernel_rfl), hI⟩
                  · rw [if_neg hb25] at h2
                    have hb25 : (!(seq y20 a1)) = false := by simpa using hb25
                    refine OpsT.keep [1, 5, 10, 55] (S' := [(1, .string a1), (5, .bool y4), (10, .bool y21), (55, .bool false)]) (by (try simp only [hb25]); kernel_rfl) ?_
                    refine OpsT.pures (r := []) [9, 10, 11] [1, 5, 58] (S' := [(1, .string a1), (5, .bool y4), (58, .bool (!y21))]) (by kernel_rfl) ?_
                    refine OpsT.done ?_
                    have hI := hI.drop
                    have hI := hI.drop
                    have e := someS h2
                    subst e
                    exact Qn.thenJ fun a ha => ⟨!y21, rfl, ha.keep [1, 5, 58] (by kernel_rfl), hI⟩
              ·
                rintro a w ⟨x23, rfl, ha, hI⟩
                try dsimp only at h1
                refine CodT.of ?_ ha
                by_cases hb26 : x23 = true
                · rw [if_pos hb26] at h1
                  refine CodT.yes' (b := x23) (by kernel_rfl) hb26 ?_
                  refine CodT.seq ?_
                  refine CodT.regionL [0] (by kernel_rfl) ?_
                  refine OpsT.pures (r := []) [0] [4] (S' := [(4, .bool false)]) (by kernel_rfl) ?_
                  refine OpsT.done ?_
                  refine Qn.then ?_
                  refine CodT.ret ?_
                  refine Qn.ret_then ?_
                  have e := someS h1
                  subst e
                  try dsimp only at h0
                  have e := someS h0
                  subst e
                  refine Qn.keep [4] (S' := [(4, .bool false)]) (by kernel_rfl) ?_
                  exact post_ret (v := .bool false) (fun a ha => RunRes.run (vs := [.bool false]) (.tmp (t := 4) (by kernel_rfl) .nil) ha (by kernel_rfl)) ⟨rfl, hI⟩
                · rw [if_neg hb26] at h1
                  refine CodT.no' (b := x23) (by kernel_rfl) (by simpa using hb26) ?_
                  refine CodT.skip ?_
                  have e := someS h1
                  subst e
                  exact Qn.thenJ fun a ha => ⟨rfl, ha.keep [1, 5] (by kernel_rfl), hI⟩
            · rw [if_neg hb15] at h1
              refine CodT.no' (b := y11) (by kernel_rfl) (by simpa using hb15) ?_
              refine CodT.skip ?_
              have hI := hI.drop
              have e := someS h1
              subst e
              exact Qn.thenJ fun a ha => ⟨rfl, ha.keep [1, 5] (by kernel_rfl), hI⟩
          ·
            rintro a w ⟨rfl, ha, hI⟩
            try dsimp only at h0
            refine CodT.of ?_ ha
            refine CodT.seq ?_
            refine CodT.regionL [0, 1, 2, 3, 4, 5, 6, 7, 8, 9] (by kernel_rfl) ?_
            refine OpsT.pures (r := [1, 2, 3, 4, 5, 6, 7, 8, 9]) [0] [1, 5, 60] (S' := [(1, .string a1), (5, .bool y4), (60, .string a1)]) (by kernel_rfl) ?_
            obtain ⟨⟨y28, y30, y31⟩, hc27, h0⟩ := bindS h0
            try dsimp only at h0
            refine OpsT.cons (Does.call (d := some 61) (n := 16) (vs := [.string a1]) (by kernel_rfl) en16 (c16 w0 w _ _ hI a1 _ hc27) ?_)
            rintro e w ⟨rfl, hl29, hI⟩
            refine ⟨_, rfl, ?_⟩
            refine OpsT.pures (r := [6, 7, 8, 9]) [2, 3, 4, 5] [1, 5, 62, 63, 64] (S' := [(1, .string a1), (5, .bool y4), (62, .agg (c_ApiEvent y28).toArray), (63, .string y30), (64, .bool y31)]) (by kernel_rfl) ?_
            refine OpsT.cons (Does.allocL (d := 11) (T := 26) (c_ApiEvent (ApiEvent.mk 0 0 (⟨#[]⟩ : ByteArray) 0 0 (List.replicate 32 (0 : Int)))) (by kernel_rfl) ty26 hI (by kernel_rfl) ?_)
            intro b32 w hI
            refine OpsT.cons (Does.storeLit (T := 26) (b := b32) (o := 0) (v := .agg (c_ApiEvent y28).toArray) (l := c_ApiEvent (ApiEvent.mk 0 0 (⟨#[]⟩ : ByteArray) 0 0 (List.replicate 32 (0 : Int)))) (vs := c_ApiEvent y28) (L' := c_ApiEvent y28) (by kernel_rfl) ty26 hI (by kernel_rfl) (len_ApiEvent _ hl29) (by rw [(len_ApiEvent _ (by kernel_rfl))]; kernel_rfl) (ones_app _ _ (by kernel_rfl) (ones_cA _)) (lset_all _ _ (Eq.trans (len_ApiEvent _ hl29) (Eq.symm (len_ApiEvent _ (by kernel_rfl))))) ?_)
            intro w hI
            refine OpsT.pures (r := []) [8, 9] [1, 5, 11, 12, 13] (S' := [(1, .string a1), (5, .bool y4), (11, .pointer (some ⟨b32, 0, none⟩)), (12, .string y30), (13, .bool y31)]) (by kernel_rfl) ?_
            refine OpsT.done ?_
            refine Qn.then ?_
            refine CodT.seq ?_
            refine CodT.seq ?_
            refine CodT.regionL [0, 1] (by kernel_rfl) ?_
            refine OpsT.pures (r := []) [0, 1] [1, 5, 11, 12, 66] (S' := [(1, .string a1), (5, .bool y4), (11, .pointer (some ⟨b32, 0, none⟩)), (12, .string y30), (66, .bool (!y31))]) (by kernel_rfl) ?_
            refine OpsT.done ?_
            refine Qn.then ?_
            by_cases hb33 : (!y31) = true
            · rw [if_pos hb33] at h0
              refine CodT.yes' (b := !y31) (by kernel_rfl) hb33 ?_
              obtain ⟨r1, h1, h0⟩ := bindS h0
              refine CodT.meet (fun a w => ∃ (x34 : Bool), x34 = r1 ∧ Fr 97 [(4, .bool x34)] a ∧ Inv w0 Z w A) ?_ ?_
              ·
                refine CodT.regionL [0, 1, 2, 3, 4, 5, 6, 7, 8, 9, 10] (by kernel_rfl) ?_
                refine OpsT.pures (r := [2, 3, 4, 5, 6, 7, 8, 9, 10]) [0, 1] [11, 12, 68] (S' := [(11, .pointer (some ⟨b32, 0, none⟩)), (12, .string y30), (68, .bool y4)]) (by kernel_rfl) ?_
                by_cases hb35 : y4 = true
                · rw [if_pos hb35] at h1
                  refine OpsT.keep [11, 12, 68] (S' := [(11, .pointer (some ⟨b32, 0, none⟩)), (12, .string y30), (68, .bool true)]) (by (try simp only [hb35]); kernel_rfl) ?_
                  refine OpsT.cons (Does.yi (Yl.load (d := 69) (T := 26) (v := .agg (c_ApiEvent y28).toArray) (by kernel_rfl) (ldBN ty26 (l := c_ApiEvent y28) (o := 0) (cs := c_ApiEvent y28) (ent_refl _) (len_ApiEvent _ hl29) (whole _ _ (len_ApiEvent _ hl29)))) hI ?_)
                  refine OpsT.pures (r := [4, 5, 6, 7, 8, 9, 10]) [3] [12, 68, 69, 70] (S' := [(12, .string y30), (68, .bool true), (69, .agg (c_ApiEvent y28).toArray), (70, .agg (c_ApiEvent (ApiEvent.mk 0 0 (⟨#[]⟩ : ByteArray) 0 0 (List.replicate 32 (0 : Int)))).toArray)]) (by kernel_rfl) ?_
                  refine OpsT.cons (Does.yi (Yl.eqlS (d := 71) (T := 26) (xs := ([.int .i64 y28.Kind, .int .i64 y28.ID, .string y28.Name, .int .i64 y28.Time, .int .i64 y28.Len] : List Value) ++ (cA (Value.int .u8) y28.Sum)) (ys := ([.int .i64 0, .int .i64 0, .string (⟨#[]⟩ : ByteArray), .int .i64 0, .int .i64 0] : List Value) ++ (cA (Value.int .u8) (List.replicate 32 (0 : Int)))) (r := eq_ApiEvent y28 (ApiEvent.mk 0 0 (⟨#[]⟩ : ByteArray) 0 0 (List.replicate 32 (0 : Int)))) (by kernel_rfl) Go.Proofs.Try.underlying26 (by kernel_rfl) (by kernel_rfl) (.cons rfl (part1 (v := .int .i64 y28.Kind) ty22 (by kernel_rfl)) (part1 (v := .int .i64 0) ty22 (by kernel_rfl)) (eqI Go.Proofs.Try.underlying22) (.cons rfl (part1 (v := .int .i64 y28.ID) ty3 (by kernel_rfl)) (part1 (v := .int .i64 0) ty3 (by kernel_rfl)) (eqI Go.Proofs.Try.underlying3) (.cons rfl (part1 (v := .string y28.Name) ty9 (by kernel_rfl)) (part1 (v := .string (⟨#[]⟩ : ByteArray)) ty9 (by kernel_rfl)) (eqS Go.Proofs.Try.underlying9) (.cons rfl (part1 (v := .int .i64 y28.Time) ty3 (by kernel_rfl)) (part1 (v := .int .i64 0) ty3 (by kernel_rfl)) (eqI Go.Proofs.Try.underlying3) (.cons rfl (part1 (v := .int .i64 y28.Len) ty3 (by kernel_rfl)) (part1 (v := .int .i64 0) ty3 (by kernel_rfl)) (eqI Go.Proofs.Try.underlying3) (.cons rfl (partN ty24 (tail_take _ _ _ _ _ (by kernel_rfl) hl29)) (partN ty24 (tail_take _ _ _ _ _ (by kernel_rfl) (by kernel_rfl))) (eqAr Go.Proofs.Try.underlying24 Go.Proofs.Try.underlying5 ty5 hl29 (by kernel_rfl)) .nil))))))) hI ?_)
                  refine OpsT.pures (r := [7, 8, 9, 10]) [5, 6] [12, 73] (S' := [(12, .string y30), (73, .bool (eq_ApiEvent y28 (ApiEvent.mk 0 0 (⟨#[]⟩ : ByteArray) 0 0 (List.replicate 32 (0 : Int)))))]) (by kernel_rfl) ?_
                  by_cases hb36 : (eq_ApiEvent y28 (ApiEvent.mk 0 0 (⟨#[]⟩ : ByteArray) 0 0 (List.replicate 32 (0 : Int)))) = true
                  · rw [if_pos hb36] at h1
                    refine OpsT.keep [12, 73] (S' := [(12, .string y30), (73, .bool true)]) (by (try simp only [hb36]); kernel_rfl) ?_
                    refine OpsT.pures (r := []) [7, 8, 9, 10] [4] (S' := [(4, .bool (seq y30 (⟨#[]⟩ : ByteArray)))]) (by kernel_rfl) ?_
                    refine OpsT.done ?_
                    have hI := hI.drop
                    have e := someS h1
                    subst e
                    exact Qn.thenJ fun a ha => ⟨seq y30 (⟨#[]⟩ : ByteArray), rfl, ha.keep [4] (by kernel_rfl), hI⟩
                  · rw [if_neg hb36] at h1
                    have hb36 : (eq_ApiEvent y28 (ApiEvent.mk 0 0 (⟨#[]⟩ : ByteArray) 0 0 (List.replicate 32 (0 : Int)))) = false := by simpa using hb36
                    refine OpsT.keep [12, 73] (S' := [(12, .string y30), (73, .bool false)]) (by (try simp only [hb36]); kernel_rfl) ?_
                    refine OpsT.pures (r := []) [7, 8, 9, 10] [4] (S' := [(4, .bool false)]) (by kernel_rfl) ?_
                    refine OpsT.done ?_
                    have hI := hI.drop
                    have e := someS h1
                    subst e
                    exact Qn.thenJ fun a ha => ⟨false, rfl, ha.keep [4] (by kernel_rfl), hI⟩
                · rw [if_neg hb35] at h1
                  have hb35 : y4 = false := by simpa using hb35
                  refine OpsT.keep [11, 12, 68] (S' := [(11, .pointer (some ⟨b32, 0, none⟩)), (12, .string y30), (68, .bool false)]) (by (try simp only [hb35]); kernel_rfl) ?_
                  refine OpsT.pures (r := []) [2, 3, 4, 5, 6, 7, 8, 9, 10] [4] (S' := [(4, .bool false)]) (by kernel_rfl) ?_
                  refine OpsT.done ?_
                  have hI := hI.drop
                  have e := someS h1
                  subst e
                  exact Qn.thenJ fun a ha => ⟨false, rfl, ha.keep [4] (by kernel_rfl), hI⟩
              ·
                rintro a w ⟨x34, rfl, ha, hI⟩
                try dsimp only at h0
                refine CodT.of ?_ ha
                refine CodT.ret ?_
                refine Qn.ret_then ?_
                have e := someS h0
                subst e
                refine Qn.keep [4] (S' := [(4, .bool x34)]) (by kernel_rfl) ?_
                exact post_ret (v := .bool x34) (fun a ha => RunRes.run (vs := [.bool x34]) (.tmp (t := 4) (by kernel_rfl) .nil) ha (by kernel_rfl)) ⟨rfl, hI⟩
            · rw [if_neg hb33] at h0
              refine CodT.no' (b := !y31) (by kernel_rfl) (by simpa using hb33) ?_
              refine CodT.skip ?_
              refine Qn.then ?_
              refine CodT.seq ?_
              refine CodT.regionL [0, 1, 2, 3, 4, 5, 6] (by kernel_rfl) ?_
              refine OpsT.cons (Does.yi (Yl.load (d := 78) (T := 26) (v := .agg (c_ApiEvent y28).toArray) (by kernel_rfl) (ldBN ty26 (l := c_ApiEvent y28) (o := 0) (cs := c_ApiEvent y28) (ent_refl _) (len_ApiEvent _ hl29) (whole _ _ (len_ApiEvent _ hl29)))) hI ?_)
              obtain ⟨⟨y38, y39⟩, hc37, h0⟩ := bindS h0
              try dsimp only at h0
              refine OpsT.cons (Does.call (d := some 79) (n := 10) (vs := [.agg (c_ApiEvent y28).toArray]) (by kernel_rfl) en10 (c10 w0 w _ _ hI y28 hl29 _ hc37) ?_)
              rintro e w ⟨rfl, hI⟩
              refine ⟨_, rfl, ?_⟩
              refine OpsT.pures (r := []) [2, 3, 4, 5, 6] [1, 5, 11, 12, 14, 15] (S' := [(1, .string a1), (5, .bool y4), (11, .pointer (some ⟨b32, 0, none⟩)), (12, .string y30), (14, .string y38), (15, .bool y39)]) (by kernel_rfl) ?_
              refine OpsT.done ?_
              refine Qn.then ?_
              obtain ⟨r1, h1, h0⟩ := bindS h0
              refine CodT.meet (fun a w => ∃ (x40 : Bool), x40 = r1 ∧ Fr 97 [(4, .bool x40)] a ∧ Inv w0 Z w A) ?_ ?_
              ·
                refine CodT.regionL [0, 1, 2, 3, 4, 5, 6, 7, 8, 9, 10, 11, 12, 13, 14, 15] (by kernel_rfl) ?_
                refine OpsT.pures (r := [2, 3, 4, 5, 6, 7, 8, 9, 10, 11, 12, 13, 14, 15]) [0, 1] [1, 11, 12, 14, 15, 83] (S' := [(1, .string a1), (11, .pointer (some ⟨b32, 0, none⟩)), (12, .string y30), (14, .string y38), (15, .bool y39), (83, .bool y4)]) (by kernel_rfl) ?_
                by_cases hb41 : y4 = true
                · rw [if_pos hb41] at h1
                  refine OpsT.keep [1, 11, 12, 14, 15, 83] (S' := [(1, .string a1), (11, .pointer (some ⟨b32, 0, none⟩)), (12, .string y30), (14, .string y38), (15, .bool y39), (83, .bool true)]) (by (try simp only [hb41]); kernel_rfl) ?_
                  refine OpsT.pures (r := [5, 6, 7, 8, 9, 10, 11, 12, 13, 14, 15]) [2, 3, 4] [1, 11, 12, 14, 86] (S' := [(1, .string a1), (11, .pointer (some ⟨b32, 0, none⟩)), (12, .string y30), (14, .string y38), (86, .bool y39)]) (by kernel_rfl) ?_
                  by_cases hb42 : y39 = true
                  · rw [if_pos hb42] at h1
                    refine OpsT.keep [1, 11, 12, 14, 86] (S' := [(1, .string a1), (11, .pointer (some ⟨b32, 0, none⟩)), (12, .string y30), (14, .string y38), (86, .bool true)]) (by (try simp only [hb42]); kernel_rfl) ?_
                    refine OpsT.pures (r := [7, 8, 9, 10, 11, 12, 13, 14, 15]) [5, 6] [1, 11, 86, 87, 88] (S' := [(1, .string a1), (11, .pointer (some ⟨b32, 0, none⟩)), (86, .bool true), (87, .string y38), (88, .string y30)]) (by kernel_rfl) ?_
                    obtain ⟨hg43, h1⟩ := guardS h1
                    refine OpsT.cons (Does.yi (Yl.cat (d := 89) (T := 9) (x := y38) (y := y30) (by kernel_rfl) hg43) hI ?_)
                    refine OpsT.pures (r := [12, 13, 14, 15]) [8, 9, 10, 11] [11, 93] (S' := [(11, .pointer (some ⟨b32, 0, none⟩)), (93, .bool (seq (y38 ++ y30) a1))]) (by kernel_rfl) ?_
                    by_cases hb44 : (seq (y38 ++ y30) a1) = true
                    · rw [if_pos hb44] at h1
                      refine OpsT.keep [11, 93] (S' := [(11, .pointer (some ⟨b32, 0, none⟩)), (93, .bool true)]) (by (try simp only [hb44]); kernel_rfl) ?_
                      refine OpsT.cons (Does.yi (Yl.load (d := 94) (T := 26) (v := .agg (c_ApiEvent y28).toArray) (by kernel_rfl) (ldBN ty26 (l := c_ApiEvent y28) (o := 0) (cs := c_ApiEvent y28) (ent_refl _) (len_ApiEvent _ hl29) (whole _ _ (len_ApiEvent _ hl29)))) hI ?_)
                      obtain ⟨y46, hc45, h1⟩ := bindS h1
                      try dsimp only at h1
                      refine OpsT.cons (Does.call (d := some 95) (n := 13) (vs := [.agg (c_ApiEvent y28).toArray]) (by kernel_rfl) en13 (c13 w0 w _ _ hI y28 hl29 _ hc45) ?_)
                      rintro e w ⟨rfl, hI⟩
                      refine ⟨_, rfl, ?_⟩
                      refine OpsT.pures (r := []) [14, 15] [4] (S' := [(4, .bool y46)]) (by kernel_rfl) ?_
                      refine OpsT.done ?_
                      have hI := hI.drop
                      have e := someS h1
                      subst e
                      exact Qn.thenJ fun a ha => ⟨y46, rfl, ha.keep [4] (by kernel_rfl), hI⟩
                    · rw [if_neg hb44] at h1
                      have hb44 : (seq (y38 ++ y30) a1) = false := by simpa using hb44
                      refine OpsT.keep [11, 93] (S' := [(11, .pointer (some ⟨b32, 0, none⟩)), (93, .bool false)]) (by (try simp only [hb44]); kernel_rfl) ?_
                      refine OpsT.pures (r := []) [12, 13, 14, 15] [4] (S' := [(4, .bool false)]) (by kernel_rfl) ?_
                      refine OpsT.done ?_
                      have hI := hI.drop
                      have e := someS h1
                      subst e
                      exact Qn.thenJ fun a ha => ⟨false, rfl, ha.keep [4] (by kernel_rfl), hI⟩
                  · rw [if_neg hb42] at h1
                    have hb42 : y39 = false := by simpa using hb42
                    refine OpsT.keep [1, 11, 12, 14, 86] (S' := [(1, .string a1), (11, .pointer (some ⟨b32, 0, none⟩)), (12, .string y30), (14, .string y38), (86, .bool false)]) (by (try simp only [hb42]); kernel_rfl) ?_
                    refine OpsT.pures (r := []) [5, 6, 7, 8, 9, 10, 11, 12, 13, 14, 15] [4] (S' := [(4, .bool false)]) (by kernel_rfl) ?_
                    refine OpsT.done ?_
                    have hI := hI.drop
                    have e := someS h1
                    subst e
                    exact Qn.thenJ fun a ha => ⟨false, rfl, ha.keep [4] (by kernel_rfl), hI⟩
                · rw [if_neg hb41] at h1
                  have hb41 : y4 = false := by simpa using hb41
                  refine OpsT.keep [1, 11, 12, 14, 15, 83] (S' := [(1, .string a1), (11, .pointer (some ⟨b32, 0, none⟩)), (12, .string y30), (14, .string y38), (15, .bool y39), (83, .bool false)]) (by (try simp only [hb41]); kernel_rfl) ?_
                  refine OpsT.pures (r := []) [2, 3, 4, 5, 6, 7, 8, 9, 10, 11, 12, 13, 14, 15] [4] (S' := [(4, .bool false)]) (by kernel_rfl) ?_
                  refine OpsT.done ?_
                  have hI := hI.drop
                  have e := someS h1
                  subst e
                  exact Qn.thenJ fun a ha => ⟨false, rfl, ha.keep [4] (by kernel_rfl), hI⟩
              ·
                rintro a w ⟨x40, rfl, ha, hI⟩
                try dsimp only at h0
                refine CodT.of ?_ ha
                refine CodT.ret ?_
                have e := someS h0
                subst e
                refine Qn.keep [4] (S' := [(4, .bool x40)]) (by kernel_rfl) ?_
                exact post_ret (v := .bool x40) (fun a ha => RunRes.run (vs := [.bool x40]) (.tmp (t := 4) (by kernel_rfl) .nil) ha (by kernel_rfl)) ⟨rfl, hI⟩
end Go.Cen
