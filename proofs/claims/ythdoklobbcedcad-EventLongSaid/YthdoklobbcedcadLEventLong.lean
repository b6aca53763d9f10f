/- The walk of the law EventLong, printed by a program of ours. -/
import Derived.Test.YthdoklobbcedcadPx
import Derived.Test.YthdoklobbcedcadWx2
set_option linter.unusedVariables false
set_option linter.unusedSimpArgs false
namespace Go.Cen
set_option maxRecDepth 100000 in
set_option maxHeartbeats 4000000 in
/-- cenotaph/cenotaphlaw05.EventLong -/
theorem c7 (w0 w : World) (Z : Hp) (A : HP) (hI : Inv w0 Z w A) (a0 : ApiEvent) (hl1 : a0.Sum.length = 32) (r : Bool) (h0 : law05_EventLong a0 = some r) :
    Calls prog 7 #[.agg (c_ApiEvent a0).toArray] w (fun e w' => e = .returned (.bool r) ∧ Inv w0 Z w' A) := by
  have e4 := calls_intro (R := (fun e w' => e = .returned (.bool r) ∧ Inv w0 Z w' A)) (w := w) (args := [.agg (c_ApiEvent a0).toArray]) (fn := Go.Proofs.Try.f7) 45 Go.Proofs.Try.func7 (by rfl) Go.Proofs.Try.ntmps7 (by kernel_rfl)
  refine e4 ?_
  clear e4
  unfold law05_EventLong at h0
  refine CodT.seq ?_
  refine CodT.regionL [0, 1] (by kernel_rfl) ?_
  refine OpsT.cons (Does.boxL (d := 1) (T := 26) (v := .agg (c_ApiEvent a0).toArray) (c_ApiEvent a0) (by kernel_rfl) hI (by kernel_rfl) ?_)
  intro b2 w hI
  refine OpsT.pures (r := []) [1] [1] (S' := [(1, .pointer (some ⟨b2, 0, none⟩))]) (by kernel_rfl) ?_
  refine OpsT.done ?_
  refine Qn.then ?_
  refine CodT.seq ?_
  refine CodT.regionL [0, 1] (by kernel_rfl) ?_
  obtain ⟨y4, hc3, h0⟩ := bindS h0
  try dsimp only at h0
  refine OpsT.cons (Does.call (d := some 6) (n := 9) (vs := []) (by kernel_rfl) en9 (c9 w0 w _ _ hI _ hc3) ?_)
  rintro e w ⟨rfl, hI⟩
  refine ⟨_, rfl, ?_⟩
  refine OpsT.pures (r := []) [1] [1, 3] (S' := [(1, .pointer (some ⟨b2, 0, none⟩)), (3, .bool y4)]) (by kernel_rfl) ?_
  refine OpsT.done ?_
  refine Qn.then ?_
  refine CodT.seq ?_
  refine CodT.seq ?_
  refine CodT.regionL [0, 1] (by kernel_rfl) ?_
  refine OpsT.pures (r := []) [0, 1] [1, 3, 8] (S' := [(1, .pointer (some ⟨b2, 0, none⟩)), (3, .bool y4), (8, .bool (!y4))]) (by kernel_rfl) ?_
  refine OpsT.done ?_
  refine Qn.then ?_
  by_cases hb5 : (!y4) = true
  · rw [if_pos hb5] at h0
    refine CodT.yes' (b := !y4) (by kernel_rfl) hb5 ?_
    refine CodT.seq ?_
    refine CodT.regionL [0] (by kernel_rfl) ?_
    refine OpsT.pures (r := []) [0] [2] (S' := [(2, .bool false)]) (by kernel_rfl) ?_
    refine OpsT.done ?_
    refine Qn.then ?_
    refine CodT.ret ?_
    refine Qn.ret_then ?_
    have hI := hI.drop
    have e := someS h0
    subst e
    refine Qn.keep [2] (S' := [(2, .bool false)]) (by kernel_rfl) ?_
    exact post_ret (v := .bool false) (fun a ha => RunRes.run (vs := [.bool false]) (.tmp (t := 2) (by kernel_rfl) .nil) ha (by kernel_rfl)) ⟨rfl, hI⟩
  · rw [if_neg hb5] at h0
    refine CodT.no' (b := !y4) (by kernel_rfl) (by simpa using hb5) ?_
    refine CodT.skip ?_
    refine Qn.then ?_
    refine CodT.seq ?_
    refine CodT.seq ?_
    refine CodT.regionL [0, 1, 2, 3] (by kernel_rfl) ?_
    refine OpsT.pures (r := [1, 2, 3]) [0] [1, 3, 9] (S' := [(1, .pointer (some ⟨b2, 0, none⟩)), (3, .bool y4), (9, .pointer (some ⟨b2, 2, none⟩))]) (by kernel_rfl) ?_
    refine OpsT.cons (Does.yi (Yl.load (d := 10) (T := 9) (v := .string a0.Name) (by kernel_rfl) (ldB ty9 (l := c_ApiEvent a0) (o := 2) (v := .string a0.Name) (ent_refl _) (by kernel_rfl))) hI ?_)
    refine OpsT.pures (r := []) [2, 3] [1, 3, 12] (S' := [(1, .pointer (some ⟨b2, 0, none⟩)), (3, .bool y4), (12, .bool (decide ((a0.Name.size : Int) > 300)))]) (by kernel_rfl) ?_
    refine OpsT.done ?_
    refine Qn.then ?_
    by_cases hb6 : (decide ((a0.Name.size : Int) > 300)) = true
    · rw [if_pos hb6] at h0
      refine CodT.yes' (b := decide ((a0.Name.size : Int) > 300)) (by kernel_rfl) hb6 ?_
      refine CodT.seq ?_
      refine CodT.regionL [0, 1] (by kernel_rfl) ?_
      refine OpsT.pures (r := []) [0, 1] [2] (S' := [(2, .bool y4)]) (by kernel_rfl) ?_
      refine OpsT.done ?_
      refine Qn.then ?_
      refine CodT.ret ?_
      refine Qn.ret_then ?_
      have hI := hI.drop
      have e := someS h0
      subst e
      refine Qn.keep [2] (S' := [(2, .bool y4)]) (by kernel_rfl) ?_
      exact post_ret (v := .bool y4) (fun a ha => RunRes.run (vs := [.bool y4]) (.tmp (t := 2) (by kernel_rfl) .nil) ha (by kernel_rfl)) ⟨rfl, hI⟩
    · rw [if_neg hb6] at h0
      refine CodT.no' (b := decide ((a0.Name.size : Int) > 300)) (by kernel_rfl) (by simpa using hb6) ?_
      refine CodT.skip ?_
      refine Qn.then ?_
      refine CodT.seq ?_
      refine CodT.regionL [0, 1, 2, 3, 4, 5, 6] (by kernel_rfl) ?_
      refine OpsT.cons (Does.yi (Yl.load (d := 15) (T := 26) (v := .agg (c_ApiEvent a0).toArray) (by kernel_rfl) (ldBN ty26 (l := c_ApiEvent a0) (o := 0) (cs := c_ApiEvent a0) (ent_refl _) (len_ApiEvent _ hl1) (whole _ _ (len_ApiEvent _ hl1)))) hI ?_)
      obtain ⟨⟨y8, y9⟩, hc7, h0⟩ := bindS h0
      try dsimp only at h0
      refine OpsT.cons (Does.call (d := some 16) (n := 10) (vs := [.agg (c_ApiEvent a0).toArray]) (by kernel_rfl) en10 (c10 w0 w _ _ hI a0 hl1 _ hc7) ?_)
      rintro e w ⟨rfl, hI⟩
      refine ⟨_, rfl, ?_⟩
      refine OpsT.pures (r := []) [2, 3, 4, 5, 6] [1, 3, 4, 5] (S' := [(1, .pointer (some ⟨b2, 0, none⟩)), (3, .bool y4), (4, .string y8), (5, .bool y9)]) (by kernel_rfl) ?_
      refine OpsT.done ?_
      refine Qn.then ?_
      refine CodT.seq ?_
      refine CodT.seq ?_
      refine CodT.regionL [0, 1] (by kernel_rfl) ?_
      refine OpsT.pures (r := []) [0, 1] [1, 3, 4, 20] (S' := [(1, .pointer (some ⟨b2, 0, none⟩)), (3, .bool y4), (4, .string y8), (20, .bool (!y9))]) (by kernel_rfl) ?_
      refine OpsT.done ?_
      refine Qn.then ?_
      by_cases hb10 : (!y9) = true
      · rw [if_pos hb10] at h0
        refine CodT.yes' (b := !y9) (by kernel_rfl) hb10 ?_
        obtain ⟨r1, h1, h0⟩ := bindS h0
        refine CodT.meet (fun a w => ∃ (x11 : Bool), x11 = r1 ∧ Fr 45 [(2, .bool x11)] a ∧ Inv w0 Z w A) ?_ ?_
        ·
          refine CodT.regionL [0, 1, 2, 3, 4, 5] (by kernel_rfl) ?_
          refine OpsT.pures (r := [2, 3, 4, 5]) [0, 1] [4, 22] (S' := [(4, .string y8), (22, .bool y4)]) (by kernel_rfl) ?_
          by_cases hb12 : y4 = true
          · rw [if_pos hb12] at h1
            refine OpsT.keep [4, 22] (S' := [(4, .string y8), (22, .bool true)]) (by (try simp only [hb12]); kernel_rfl) ?_
            refine OpsT.pures (r := []) [2, 3, 4, 5] [2] (S' := [(2, .bool (seq y8 (⟨#[]⟩ : ByteArray)))]) (by kernel_rfl) ?_
            refine OpsT.done ?_
            have hI := hI.drop
            have e := someS h1
            subst e
            exact Qn.thenJ fun a ha => ⟨seq y8 (⟨#[]⟩ : ByteArray), rfl, ha.keep [2] (by kernel_rfl), hI⟩
          · rw [if_neg hb12] at h1
            have hb12 : y4 = false := by simpa using hb12
            refine OpsT.keep [4, 22] (S' := [(4, .string y8), (22, .bool false)]) (by (try simp only [hb12]); kernel_rfl) ?_
            refine OpsT.pures (r := []) [2, 3, 4, 5] [2] (S' := [(2, .bool false)]) (by kernel_rfl) ?_
            refine OpsT.done ?_
            have hI := hI.drop
            have e := someS h1
            subst e
            exact Qn.thenJ fun a ha => ⟨false, rfl, ha.keep [2] (by kernel_rfl), hI⟩
        ·
          rintro a w ⟨x11, rfl, ha, hI⟩
          try dsimp only at h0
          refine CodT.of ?_ ha
          refine CodT.ret ?_
          refine Qn.ret_then ?_
          have e := someS h0
          subst e
          refine Qn.keep [2] (S' := [(2, .bool x11)]) (by kernel_rfl) ?_
          exact post_ret (v := .bool x11) (fun a ha => RunRes.run (vs := [.bool x11]) (.tmp (t := 2) (by kernel_rfl) .nil) ha (by kernel_rfl)) ⟨rfl, hI⟩
      · rw [if_neg hb10] at h0
        refine CodT.no' (b := !y9) (by kernel_rfl) (by simpa using hb10) ?_
        refine CodT.skip ?_
        refine Qn.then ?_
        obtain ⟨r1, h1, h0⟩ := bindS h0
        refine CodT.meet (fun a w => ∃ (x13 : Bool), x13 = r1 ∧ Fr 45 [(2, .bool x13)] a ∧ Inv w0 Z w A) ?_ ?_
        ·
          refine CodT.drawI (n := 20) [] (by kernel_rfl) (by kernel_rfl) hI ?_
          intro w hI
          refine GmT.p' 0 26 (.bool y4) (by kernel_rfl) (by kernel_rfl) ?_
          refine GmT.p' 1 27 (.bool y4) (by kernel_rfl) (by kernel_rfl) ?_
          by_cases hb14 : y4 = true
          · rw [if_pos hb14] at h1
            refine GmT.keep [1, 4, 27] (S' := [(1, .pointer (some ⟨b2, 0, none⟩)), (4, .string y8), (27, .bool true)]) (by (try simp only [hb14]); kernel_rfl) ?_
            refine GmT.p' 2 28 (.string y8) (by kernel_rfl) (by kernel_rfl) ?_
            refine GmT.p' 3 29 (.int .i64 (y8.size : Int)) (by kernel_rfl) (by kernel_rfl) ?_
            refine GmT.p' 4 30 (.bool (decide ((y8.size : Int) ≥ 2))) (by kernel_rfl) (by kernel_rfl) ?_
            refine GmT.p' 5 31 (.bool (decide ((y8.size : Int) ≥ 2))) (by kernel_rfl) (by kernel_rfl) ?_
            refine GmT.p' 6 32 (.bool (decide ((y8.size : Int) ≥ 2))) (by kernel_rfl) (by kernel_rfl) ?_
            by_cases hb15 : (decide ((y8.size : Int) ≥ 2)) = true
            · rw [if_pos hb15] at h1
              refine GmT.keep [1, 4, 32] (S' := [(1, .pointer (some ⟨b2, 0, none⟩)), (4, .string y8), (32, .bool true)]) (by (try simp only [hb15]); kernel_rfl) ?_
              refine GmT.p' 7 33 (.string y8) (by kernel_rfl) (by kernel_rfl) ?_
              refine GmT.p' 8 34 (.int .i64 (y8.size : Int)) (by kernel_rfl) (by kernel_rfl) ?_
              refine GmT.p' 9 35 (.bool (decide ((y8.size : Int) ≤ 110))) (by kernel_rfl) (by kernel_rfl) ?_
              refine GmT.p' 10 36 (.bool (decide ((y8.size : Int) ≤ 110))) (by kernel_rfl) (by kernel_rfl) ?_
              refine GmT.p' 11 37 (.bool (decide ((y8.size : Int) ≤ 110))) (by kernel_rfl) (by kernel_rfl) ?_
              by_cases hb16 : (decide ((y8.size : Int) ≤ 110)) = true
              · rw [if_pos hb16] at h1
                refine GmT.keep [1, 4, 37] (S' := [(1, .pointer (some ⟨b2, 0, none⟩)), (4, .string y8), (37, .bool true)]) (by (try simp only [hb16]); kernel_rfl) ?_
                refine GmT.p' 12 38 (.string y8) (by kernel_rfl) (by kernel_rfl) ?_
                refine GmT.p' 14 40 (.pointer (some ⟨b2, 0, none⟩)) (by kernel_rfl) (by kernel_rfl) ?_
                obtain ⟨hg17, h1⟩ := guardS h1
                refine GmT.r (i := 13) 2 (by kernel_rfl) (by kernel_rfl) (Yl.indexStr (d := 39) (T := 9) (k := .i64) (j := 0) (s := y8) (by kernel_rfl) Go.Proofs.Try.underlying9 hg17.1 hg17.2) hI ?_
                refine GmT.r (i := 15) 2 (by kernel_rfl) (by kernel_rfl) (Yl.load (d := 41) (T := 22) (v := .int .i64 a0.Kind) (by kernel_rfl) (ldB ty22 (l := c_ApiEvent a0) (o := 0) (v := .int .i64 a0.Kind) (ent_refl _) (by kernel_rfl))) hI ?_
                refine GmT.p' 16 42 (.int .u8 (wu8 a0.Kind)) (by kernel_rfl) (by kernel_rfl) ?_
                refine GmT.p' 17 43 (.bool ((bt y8 0) == (wu8 a0.Kind))) (by kernel_rfl) (by kernel_rfl) ?_
                refine GmT.p' 18 44 (.bool ((bt y8 0) == (wu8 a0.Kind))) (by kernel_rfl) (by kernel_rfl) ?_
                refine GmT.p' 19 2 (.bool ((bt y8 0) == (wu8 a0.Kind))) (by kernel_rfl) (by kernel_rfl) ?_
                refine GmT.done (by kernel_rfl) ?_
                have hI := hI.drop
                have e := someS h1
                subst e
                exact Qn.thenJ fun a ha => ⟨(bt y8 0) == (wu8 a0.Kind), rfl, ha.keep [2] (by kernel_rfl), hI⟩
              · rw [if_neg hb16] at h1
                have hb16 : (decide ((y8.size : Int) ≤ 110)) = false := by simpa using hb16
                refine GmT.keep [1, 4, 37] (S' := [(1, .pointer (some ⟨b2, 0, none⟩)), (4, .string y8), (37, .bool false)]) (by (try simp only [hb16]); kernel_rfl) ?_
                refine GmT.p' 12 38 (undef) (by kernel_rfl) (by kernel_rfl) ?_
                refine GmT.p' 13 39 (undef) (by kernel_rfl) (by kernel_rfl) ?_
                refine GmT.p' 14 40 (undef) (by kernel_rfl) (by kernel_rfl) ?_
                refine GmT.p' 15 41 (undef) (by kernel_rfl) (by kernel_rfl) ?_
                refine GmT.p' 16 42 (undef) (by kernel_rfl) (by kernel_rfl) ?_
                refine GmT.p' 17 43 (undef) (by kernel_rfl) (by kernel_rfl) ?_
                refine GmT.p' 18 44 (.bool false) (by kernel_rfl) (by kernel_rfl) ?_
                refine GmT.p' 19 2 (.bool false) (by kernel_rfl) (by kernel_rfl) ?_
                refine GmT.done (by kernel_rfl) ?_
                have hI := hI.drop
                have e := someS h1
                subst e
                exact Qn.thenJ fun a ha => ⟨false, rfl, ha.keep [2] (by kernel_rfl), hI⟩
            · rw [if_neg hb15] at h1
              have hb15 : (decide ((y8.size : Int) ≥ 2)) = false := by simpa using hb15
              refine GmT.keep [1, 4, 32] (S' := [(1, .pointer (some ⟨b2, 0, none⟩)), (4, .string y8), (32, .bool false)]) (by (try simp only [hb15]); kernel_rfl) ?_
              refine GmT.p' 7 33 (undef) (by kernel_rfl) (by kernel_rfl) ?_
              refine GmT.p' 8 34 (undef) (by kernel_rfl) (by kernel_rfl) ?_
              refine GmT.p' 9 35 (undef) (by kernel_rfl) (by kernel_rfl) ?_
              refine GmT.p' 10 36 (.bool false) (by kernel_rfl) (by kernel_rfl) ?_
              refine GmT.p' 11 37 (.bool false) (by kernel_rfl) (by kernel_rfl) ?_
              refine GmT.p' 12 38 (undef) (by kernel_rfl) (by kernel_rfl) ?_
              refine GmT.p' 13 39 (undef) (by kernel_rfl) (by kernel_rfl) ?_
              refine GmT.p' 14 40 (undef) (by kernel_rfl) (by kernel_rfl) ?_
              refine GmT.p' 15 41 (undef) (by kernel_rfl) (by kernel_rfl) ?_
              refine GmT.p' 16 42 (undef) (by kernel_rfl) (by kernel_rfl) ?_
              refine GmT.p' 17 43 (undef) (by kernel_rfl) (by kernel_rfl) ?_
              refine GmT.p' 18 44 (.bool false) (by kernel_rfl) (by kernel_rfl) ?_
              refine GmT.p' 19 2 (.bool false) (by kernel_rfl) (by kernel_rfl) ?_
              refine GmT.done (by kernel_rfl) ?_
              have hI := hI.drop
              have e := someS h1
              subst e
              exact Qn.thenJ fun a ha => ⟨false, rfl, ha.keep [2] (by kernel_rfl), hI⟩
          · rw [if_neg hb14] at h1
            have hb14 : y4 = false := by simpa using hb14
            refine GmT.keep [1, 4, 27] (S' := [(1, .pointer (some ⟨b2, 0, none⟩)), (4, .string y8), (27, .bool false)]) (by (try simp only [hb14]); kernel_rfl) ?_
            refine GmT.p' 2 28 (undef) (by kernel_rfl) (by kernel_rfl) ?_
            refine GmT.p' 3 29 (undef) (by kernel_rfl) (by kernel_rfl) ?_
            refine GmT.p' 4 30 (undef) (by kernel_rfl) (by kernel_rfl) ?_
            refine GmT.p' 5 31 (.bool false) (by kernel_rfl) (by kernel_rfl) ?_
            refine GmT.p' 6 32 (.bool false) (by kernel_rfl) (by kernel_rfl) ?_
            refine GmT.p' 7 33 (undef) (by kernel_rfl) (by kernel_rfl) ?_
            refine GmT.p' 8 34 (undef) (by kernel_rfl) (by kernel_rfl) ?_
            refine GmT.p' 9 35 (undef) (by kernel_rfl) (by kernel_rfl) ?_
            refine GmT.p' 10 36 (.bool false) (by kernel_rfl) (by kernel_rfl) ?_
            refine GmT.p' 11 37 (.bool false) (by kernel_rfl) (by kernel_rfl) ?_
            refine GmT.p' 12 38 (undef) (by kernel_rfl) (by kernel_rfl) ?_
            refine GmT.p' 13 39 (undef) (by kernel_rfl) (by kernel_rfl) ?_
            refine GmT.p' 14 40 (undef) (by kernel_rfl) (by kernel_rfl) ?_
            refine GmT.p' 15 41 (undef) (by kernel_rfl) (by kernel_rfl) ?_
            refine GmT.p' 16 42 (undef) (by kernel_rfl) (by kernel_rfl) ?_
            refine GmT.p' 17 43 (undef) (by kernel_rfl) (by kernel_rfl) ?_
            refine GmT.p' 18 44 (.bool false) (by kernel_rfl) (by kernel_rfl) ?_
            refine GmT.p' 19 2 (.bool false) (by kernel_rfl) (by kernel_rfl) ?_
            refine GmT.done (by kernel_rfl) ?_
            have hI := hI.drop
            have e := someS h1
            subst e
            exact Qn.thenJ fun a ha => ⟨false, rfl, ha.keep [2] (by kernel_rfl), hI⟩
        ·
          rintro a w ⟨x13, rfl, ha, hI⟩
          try dsimp only at h0
          refine CodT.of ?_ ha
          refine CodT.ret ?_
          have e := someS h0
          subst e
          refine Qn.keep [2] (S' := [(2, .bool x13)]) (by kernel_rfl) ?_
          exact post_ret (v := .bool x13) (fun a ha => RunRes.run (vs := [.bool x13]) (.tmp (t := 2) (by kernel_rfl) .nil) ha (by kernel_rfl)) ⟨rfl, hI⟩
end Go.Cen
