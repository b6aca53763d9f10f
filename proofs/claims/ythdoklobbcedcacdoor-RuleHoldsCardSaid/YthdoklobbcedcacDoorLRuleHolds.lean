/- The walk of the law RuleHolds, printed by a program of ours. -/
import Derived.Test.YthdoklobbcedcacDoorPx
import Derived.Test.YthdoklobbcedcacDoorWx1
set_option linter.unusedVariables false
set_option linter.unusedSimpArgs false
namespace Go.Cen
set_option maxRecDepth 100000 in
set_option maxHeartbeats 4000000 in
/-- cenotaph/cenotaphlaw07.RuleHolds -/
theorem c6 (w0 w : World) (Z : Hp) (A : HP) (hI : Inv w0 Z w A) (hT : Tabs Z) (a0_ID : Int) (a0_Name : ByteArray) (a0_Data : ByteArray) (a0_Sealed : Bool) (a0_Until : Int) (A_a0_Holds : Option Addr) (c_a0_Holds : Nat) (a0_Holds : (List ByteArray)) (hr_a0_Holds : RdS Z cS 1 A_a0_Holds c_a0_Holds a0_Holds) (a1 : ByteArray) (r : Bool) (h0 : law07_RuleHolds a0_ID a0_Name a0_Data a0_Sealed a0_Until a0_Holds a1 = some r) :
    Calls prog 6 #[.agg ((([.int .i64 a0_ID, .string a0_Name, .string a0_Data, .bool a0_Sealed, .int .i64 a0_Until, .slice A_a0_Holds a0_Holds.length c_a0_Holds] : List Value))).toArray, .string a1] w (fun e w' => e = .returned (.bool r) ∧ Inv w0 Z w' A) := by
  have e4 := calls_intro (R := (fun e w' => e = .returned (.bool r) ∧ Inv w0 Z w' A)) (w := w) (args := [.agg ((([.int .i64 a0_ID, .string a0_Name, .string a0_Data, .bool a0_Sealed, .int .i64 a0_Until, .slice A_a0_Holds a0_Holds.length c_a0_Holds] : List Value))).toArray, .string a1]) (fn := Go.Proofs.Tryd.f6) 98 Go.Proofs.Tryd.func6 (by rfl) Go.Proofs.Tryd.ntmps6 (by kernel_rfl)
  refine e4 ?_
  clear e4
  unfold law07_RuleHolds at h0
  refine CodT.seq ?_
  refine CodT.regionL [0, 1] (by kernel_rfl) ?_
  refine OpsT.cons (Does.boxL (d := 2) (T := 27) (v := .agg ((([.int .i64 a0_ID, .string a0_Name, .string a0_Data, .bool a0_Sealed, .int .i64 a0_Until, .slice A_a0_Holds a0_Holds.length c_a0_Holds] : List Value))).toArray) ((([.int .i64 a0_ID, .string a0_Name, .string a0_Data, .bool a0_Sealed, .int .i64 a0_Until, .slice A_a0_Holds a0_Holds.length c_a0_Holds] : List Value))) (by kernel_rfl) hI (by kernel_rfl) ?_)
  intro b1 w hI
  refine OpsT.pures (r := []) [1] [1, 2] (S' := [(1, .string a1), (2, .pointer (some ⟨b1, 0, none⟩))]) (by kernel_rfl) ?_
  refine OpsT.done ?_
  refine Qn.then ?_
  refine CodT.seq ?_
  refine CodT.regionL [0, 1] (by kernel_rfl) ?_
  obtain ⟨y3, hc2, h0⟩ := bindS h0
  try dsimp only at h0
  refine OpsT.cons (Does.call (d := some 15) (n := 10) (vs := []) (by kernel_rfl) en10 (c10 w0 w _ _ hI hT _ hc2) ?_)
  rintro e w ⟨rfl, hI⟩
  refine ⟨_, rfl, ?_⟩
  refine OpsT.pures (r := []) [1] [1, 2, 5] (S' := [(1, .string a1), (2, .pointer (some ⟨b1, 0, none⟩)), (5, .bool y3)]) (by kernel_rfl) ?_
  refine OpsT.done ?_
  refine Qn.then ?_
  refine CodT.seq ?_
  refine CodT.seq ?_
  refine CodT.regionL [0, 1] (by kernel_rfl) ?_
  refine OpsT.pures (r := []) [0, 1] [1, 2, 5, 17] (S' := [(1, .string a1), (2, .pointer (some ⟨b1, 0, none⟩)), (5, .bool y3), (17, .bool (!y3))]) (by kernel_rfl) ?_
  refine OpsT.done ?_
  refine Qn.then ?_
  by_cases hb4 : (!y3) = true
  · rw [if_pos hb4] at h0
    refine CodT.yes' (b := !y3) (by kernel_rfl) hb4 ?_
    refine CodT.seq ?_
    refine CodT.regionL [0] (by kernel_rfl) ?_
    refine OpsT.pures (r := []) [0] [4] (S' := [(4, .bool false)]) (by kernel_rfl) ?_
    refine OpsT.done ?_
    refine Qn.then ?_
    refine CodT.ret ?_
    refine Qn.ret_then ?_
    have hI := hI.drop
    have e := someS h0
    subst e
    refine Qn.keep [4] (S' := [(4, .bool false)]) (by kernel_rfl) ?_
    exact post_ret (v := .bool false) (fun a ha => RunRes.run (vs := [.bool false]) (.tmp (t := 4) (by kernel_rfl) .nil) ha (by kernel_rfl)) ⟨rfl, hI⟩
  · rw [if_neg hb4] at h0
    refine CodT.no' (b := !y3) (by kernel_rfl) (by simpa using hb4) ?_
    refine CodT.skip ?_
    refine Qn.then ?_
    refine CodT.seq ?_
    refine CodT.regionL [0, 1, 2] (by kernel_rfl) ?_
    refine OpsT.cons (Does.yi (Yl.load (d := 18) (T := 27) (v := .agg ((([.int .i64 a0_ID, .string a0_Name, .string a0_Data, .bool a0_Sealed, .int .i64 a0_Until, .slice A_a0_Holds a0_Holds.length c_a0_Holds] : List Value))).toArray) (by kernel_rfl) (ldBN ty27 (l := (([.int .i64 a0_ID, .string a0_Name, .string a0_Data, .bool a0_Sealed, .int .i64 a0_Until, .slice A_a0_Holds a0_Holds.length c_a0_Holds] : List Value))) (o := 0) (cs := (([.int .i64 a0_ID, .string a0_Name, .string a0_Data, .bool a0_Sealed, .int .i64 a0_Until, .slice A_a0_Holds a0_Holds.length c_a0_Holds] : List Value))) (ent_refl _) (by kernel_rfl) (whole _ _ (by kernel_rfl)))) hI ?_)
    obtain ⟨y6, hc5, h0⟩ := bindS h0
    try dsimp only at h0
    refine OpsT.cons (Does.call (d := some 19) (n := 11) (vs := [.agg ((([.int .i64 a0_ID, .string a0_Name, .string a0_Data, .bool a0_Sealed, .int .i64 a0_Until, .slice A_a0_Holds a0_Holds.length c_a0_Holds] : List Value))).toArray]) (by kernel_rfl) en11 (c11 w0 w _ _ hI hT a0_ID a0_Name a0_Data a0_Sealed a0_Until A_a0_Holds c_a0_Holds a0_Holds hr_a0_Holds _ hc5) ?_)
    rintro e w ⟨rfl, hI⟩
    refine ⟨_, rfl, ?_⟩
    refine OpsT.pures (r := []) [2] [1, 2, 5, 6] (S' := [(1, .string a1), (2, .pointer (some ⟨b1, 0, none⟩)), (5, .bool y3), (6, .bool y6)]) (by kernel_rfl) ?_
    refine OpsT.done ?_
    refine Qn.then ?_
    refine CodT.seq ?_
    obtain ⟨r1, h1, h0⟩ := bindS h0
    refine CodT.meet (fun a w => ∃ (x7 : Bool), x7 = r1 ∧ Fr 98 [(1, .string a1), (2, .pointer (some ⟨b1, 0, none⟩)), (5, .bool y3), (26, .bool x7)] a ∧ Inv w0 Z w (star (pt b1 (.cells ((([.int .i64 a0_ID, .string a0_Name, .string a0_Data, .bool a0_Sealed, .int .i64 a0_Until, .slice A_a0_Holds a0_Holds.length c_a0_Holds] : List Value))).toArray 27 (0, 0))) A)) ?_ ?_
    ·
      refine CodT.regionL [0, 1, 2, 3, 4, 5, 6] (by kernel_rfl) ?_
      refine OpsT.pures (r := [3, 4, 5, 6]) [0, 1, 2] [1, 2, 5, 22] (S' := [(1, .string a1), (2, .pointer (some ⟨b1, 0, none⟩)), (5, .bool y3), (22, .bool (!y6))]) (by kernel_rfl) ?_
      by_cases hb8 : (!y6) = true
      · rw [if_pos hb8] at h1
        refine OpsT.keep [1, 2, 5, 22] (S' := [(1, .string a1), (2, .pointer (some ⟨b1, 0, none⟩)), (5, .bool y3), (22, .bool true)]) (by (try simp only [hb8]); kernel_rfl) ?_
        refine OpsT.pures (r := []) [3, 4, 5, 6] [1, 2, 5, 26] (S' := [(1, .string a1), (2, .pointer (some ⟨b1, 0, none⟩)), (5, .bool y3), (26, .bool true)]) (by kernel_rfl) ?_
        refine OpsT.done ?_
        have e := someS h1
        subst e
        exact Qn.thenJ fun a ha => ⟨true, rfl, ha.keep [1, 2, 5, 26] (by kernel_rfl), hI⟩
      · rw [if_neg hb8] at h1
        have hb8 : (!y6) = false := by simpa using hb8
        refine OpsT.keep [1, 2, 5, 22] (S' := [(1, .string a1), (2, .pointer (some ⟨b1, 0, none⟩)), (5, .bool y3), (22, .bool false)]) (by (try simp only [hb8]); kernel_rfl) ?_
        refine OpsT.pures (r := []) [3, 4, 5, 6] [1, 2, 5, 26] (S' := [(1, .string a1), (2, .pointer (some ⟨b1, 0, none⟩)), (5, .bool y3), (26, .bool (decide ((a1.size : Int) > 200)))]) (by kernel_rfl) ?_
        refine OpsT.done ?_
        have e := someS h1
        subst e
        exact Qn.thenJ fun a ha => ⟨decide ((a1.size : Int) > 200), rfl, ha.keep [1, 2, 5, 26] (by kernel_rfl), hI⟩
    ·
      rintro a w ⟨x7, rfl, ha, hI⟩
      try dsimp only at h0
      refine CodT.of ?_ ha
      by_cases hb9 : x7 = true
      · rw [if_pos hb9] at h0
        refine CodT.yes' (b := x7) (by kernel_rfl) hb9 ?_
        refine CodT.seq ?_
        refine CodT.regionL [0, 1] (by kernel_rfl) ?_
        refine OpsT.pures (r := []) [0, 1] [4] (S' := [(4, .bool y3)]) (by kernel_rfl) ?_
        refine OpsT.done ?_
        refine Qn.then ?_
        refine CodT.ret ?_
        refine Qn.ret_then ?_
        have hI := hI.drop
        have e := someS h0
        subst e
        refine Qn.keep [4] (S' := [(4, .bool y3)]) (by kernel_rfl) ?_
        exact post_ret (v := .bool y3) (fun a ha => RunRes.run (vs := [.bool y3]) (.tmp (t := 4) (by kernel_rfl) .nil) ha (by kernel_rfl)) ⟨rfl, hI⟩
      · rw [if_neg hb9] at h0
        refine CodT.no' (b := x7) (by kernel_rfl) (by simpa using hb9) ?_
        refine CodT.skip ?_
        refine Qn.then ?_
        refine CodT.seq ?_
        refine CodT.regionL [0, 1, 2, 3, 4, 5, 6, 7, 8] (by kernel_rfl) ?_
        refine OpsT.cons (Does.yi (Yl.load (d := 29) (T := 27) (v := .agg ((([.int .i64 a0_ID, .string a0_Name, .string a0_Data, .bool a0_Sealed, .int .i64 a0_Until, .slice A_a0_Holds a0_Holds.length c_a0_Holds] : List Value))).toArray) (by kernel_rfl) (ldBN ty27 (l := (([.int .i64 a0_ID, .string a0_Name, .string a0_Data, .bool a0_Sealed, .int .i64 a0_Until, .slice A_a0_Holds a0_Holds.length c_a0_Holds] : List Value))) (o := 0) (cs := (([.int .i64 a0_ID, .string a0_Name, .string a0_Data, .bool a0_Sealed, .int .i64 a0_Until, .slice A_a0_Holds a0_Holds.length c_a0_Holds] : List Value))) (ent_refl _) (by kernel_rfl) (whole _ _ (by kernel_rfl)))) hI ?_)
        refine OpsT.pures (r := [2, 3, 4, 5, 6, 7, 8]) [1] [1, 2, 5, 29, 30] (S' := [(1, .string a1), (2, .pointer (some ⟨b1, 0, none⟩)), (5, .bool y3), (29, .agg ((([.int .i64 a0_ID, .string a0_Name, .string a0_Data, .bool a0_Sealed, .int .i64 a0_Until, .slice A_a0_Holds a0_Holds.length c_a0_Holds] : List Value))).toArray), (30, .string a1)]) (by kernel_rfl) ?_
        obtain ⟨⟨y11, y12, y13, y14, y15, y16, y20⟩, hc10, h0⟩ := bindS h0
        try dsimp only at h0
        refine OpsT.cons (Does.call (d := some 31) (n := 22) (vs := [.agg ((([.int .i64 a0_ID, .string a0_Name, .string a0_Data, .bool a0_Sealed, .int .i64 a0_Until, .slice A_a0_Holds a0_Holds.length c_a0_Holds] : List Value))).toArray, .string a1]) (by kernel_rfl) en22 (c22 w0 w _ _ hI hT a0_ID a0_Name a0_Data a0_Sealed a0_Until A_a0_Holds c_a0_Holds a0_Holds hr_a0_Holds a1 _ hc10) ?_)
        rintro e w ⟨A17, cp18, Z21, hle22, rfl, hr19, hI⟩
        refine ⟨_, rfl, ?_⟩
        refine OpsT.pures (r := [6, 7, 8]) [3, 4, 5] [1, 2, 5, 32, 33] (S' := [(1, .string a1), (2, .pointer (some ⟨b1, 0, none⟩)), (5, .bool y3), (32, .agg ((([.int .i64 y11, .string y12, .string y13, .bool y14, .int .i64 y15, .slice A17 y16.length cp18] : List Value))).toArray), (33, .int .i64 y20)]) (by kernel_rfl) ?_
        refine OpsT.cons (Does.allocL (d := 7) (T := 27) ((([.int .i64 0, .string (⟨#[]⟩ : ByteArray), .string (⟨#[]⟩ : ByteArray), .bool false, .int .i64 0, .slice none 0 0] : List Value))) (by kernel_rfl) ty27 hI (by kernel_rfl) ?_)
        intro b23 w hI
        refine OpsT.cons (Does.storeLit (T := 27) (b := b23) (o := 0) (v := .agg ((([.int .i64 y11, .string y12, .string y13, .bool y14, .int .i64 y15, .slice A17 y16.length cp18] : List Value))).toArray) (l := (([.int .i64 0, .string (⟨#[]⟩ : ByteArray), .string (⟨#[]⟩ : ByteArray), .bool false, .int .i64 0, .slice none 0 0] : List Value))) (vs := (([.int .i64 y11, .string y12, .string y13, .bool y14, .int .i64 y15, .slice A17 y16.length cp18] : List Value))) (L' := (([.int .i64 y11, .string y12, .string y13, .bool y14, .int .i64 y15, .slice A17 y16.length cp18] : List Value))) (by kernel_rfl) ty27 hI (by kernel_rfl) (by kernel_rfl) (by kernel_rfl) (by kernel_rfl) (by kernel_rfl) ?_)
        intro w hI
        refine OpsT.pures (r := []) [8] [1, 2, 5, 7, 8] (S' := [(1, .string a1), (2, .pointer (some ⟨b1, 0, none⟩)), (5, .bool y3), (7, .pointer (some ⟨b23, 0, none⟩)), (8, .int .i64 y20)]) (by kernel_rfl) ?_
        refine OpsT.done ?_
        refine Qn.then ?_
        refine CodT.seq ?_
        refine CodT.seq ?_
        refine CodT.regionL [0, 1] (by kernel_rfl) ?_
        refine OpsT.pures (r := []) [0, 1] [1, 2, 5, 7, 35] (S' := [(1, .string a1), (2, .pointer (some ⟨b1, 0, none⟩)), (5, .bool y3), (7, .pointer (some ⟨b23, 0, none⟩)), (35, .bool (y20 != 0))]) (by kernel_rfl) ?_
        refine OpsT.done ?_
        refine Qn.then ?_
        by_cases hb24 : (y20 != 0) = true
        · rw [if_pos hb24] at h0
          refine CodT.yes' (b := y20 != 0) (by kernel_rfl) hb24 ?_
          obtain ⟨r1, h1, h0⟩ := bindS h0
          refine CodT.meet (fun a w => ∃ (x25 : Bool), x25 = r1 ∧ Fr 98 [(4, .bool x25)] a ∧ Inv w0 Z21 w A) ?_ ?_
          ·
            refine CodT.regionL [0, 1, 2, 3, 4, 5, 6] (by kernel_rfl) ?_
            refine OpsT.pures (r := [2, 3, 4, 5, 6]) [0, 1] [2, 7, 37] (S' := [(2, .pointer (some ⟨b1, 0, none⟩)), (7, .pointer (some ⟨b23, 0, none⟩)), (37, .bool y3)]) (by kernel_rfl) ?_
            by_cases hb26 : y3 = true
            · rw [if_pos hb26] at h1
              refine OpsT.keep [2, 7, 37] (S' := [(2, .pointer (some ⟨b1, 0, none⟩)), (7, .pointer (some ⟨b23, 0, none⟩)), (37, .bool true)]) (by (try simp only [hb26]); kernel_rfl) ?_
              refine OpsT.cons (Does.yi (Yl.load (d := 38) (T := 27) (v := .agg ((([.int .i64 a0_ID, .string a0_Name, .string a0_Data, .bool a0_Sealed, .int .i64 a0_Until, .slice A_a0_Holds a0_Holds.length c_a0_Holds] : List Value))).toArray) (by kernel_rfl) (ldBN ty27 (l := (([.int .i64 a0_ID, .string a0_Name, .string a0_Data, .bool a0_Sealed, .int .i64 a0_Until, .slice A_a0_Holds a0_Holds.length c_a0_Holds] : List Value))) (o := 0) (cs := (([.int .i64 a0_ID, .string a0_Name, .string a0_Data, .bool a0_Sealed, .int .i64 a0_Until, .slice A_a0_Holds a0_Holds.length c_a0_Holds] : List Value))) (pick2 _ _ _) (by kernel_rfl) (whole _ _ (by kernel_rfl)))) hI ?_)
              refine OpsT.cons (Does.yi (Yl.load (d := 39) (T := 27) (v := .agg ((([.int .i64 y11, .string y12, .string y13, .bool y14, .int .i64 y15, .slice A17 y16.length cp18] : List Value))).toArray) (by kernel_rfl) (ldBN ty27 (l := (([.int .i64 y11, .string y12, .string y13, .bool y14, .int .i64 y15, .slice A17 y16.length cp18] : List Value))) (o := 0) (cs := (([.int .i64 y11, .string y12, .string y13, .bool y14, .int .i64 y15, .slice A17 y16.length cp18] : List Value))) (ent_refl _) (by kernel_rfl) (whole _ _ (by kernel_rfl)))) hI ?_)
              obtain ⟨y28, hc27, h1⟩ := bindS h1
              try dsimp only at h1
              refine OpsT.cons (Does.call (d := some 40) (n := 24) (vs := [.agg ((([.int .i64 a0_ID, .string a0_Name, .string a0_Data, .bool a0_Sealed, .int .i64 a0_Until, .slice A_a0_Holds a0_Holds.length c_a0_Holds] : List Value))).toArray, .agg ((([.int .i64 y11, .string y12, .string y13, .bool y14, .int .i64 y15, .slice A17 y16.length cp18] : List Value))).toArray]) (by kernel_rfl) en24 (c24 w0 w _ _ hI (hT.mono hle22) a0_ID a0_Name a0_Data a0_Sealed a0_Until A_a0_Holds c_a0_Holds a0_Holds (hr_a0_Holds.mono hle22) y11 y12 y13 y14 y15 A17 cp18 y16 hr19 _ hc27) ?_)
              rintro e w ⟨rfl, hI⟩
              refine ⟨_, rfl, ?_⟩
              refine OpsT.pures (r := []) [5, 6] [4] (S' := [(4, .bool y28)]) (by kernel_rfl) ?_
              refine OpsT.done ?_
              have hI := hI.drop
              have hI := hI.drop
              have e := someS h1
              subst e
              exact Qn.thenJ fun a ha => ⟨y28, rfl, ha.keep [4] (by kernel_rfl), hI⟩
            · rw [if_neg hb26] at h1
              have hb26 : y3 = false := by simpa using hb26
              refine OpsT.keep [2, 7, 37] (S' := [(2, .pointer (some ⟨b1, 0, none⟩)), (7, .pointer (some ⟨b23, 0, none⟩)), (37, .bool false)]) (by (try simp only [hb26]); kernel_rfl) ?_
              refine OpsT.pures (r := []) [2, 3, 4, 5, 6] [4] (S' := [(4, .bool false)]) (by kernel_rfl) ?_
              refine OpsT.done ?_
              have hI := hI.drop
              have hI := hI.drop
              have e := someS h1
              subst e
              exact Qn.thenJ fun a ha => ⟨false, rfl, ha.keep [4] (by kernel_rfl), hI⟩
          ·
            rintro a w ⟨x25, rfl, ha, hI⟩
            try dsimp only at h0
            refine CodT.of ?_ ha
            refine CodT.ret ?_
            refine Qn.ret_then ?_
            have e := someS h0
            subst e
            refine Qn.keep [4] (S' := [(4, .bool x25)]) (by kernel_rfl) ?_
            exact post_ret (v := .bool x25) (fun a ha => RunRes.run (vs := [.bool x25]) (.tmp (t := 4) (by kernel_rfl) .nil) ha (by kernel_rfl)) ⟨rfl, hI.weaken hle22⟩
        · rw [if_neg hb24] at h0
          refine CodT.no' (b := y20 != 0) (by kernel_rfl) (by simpa using hb24) ?_
          refine CodT.skip ?_
          refine Qn.then ?_
          refine CodT.seq ?_
          refine CodT.regionL [0, 1, 2, 3, 4, 5, 6, 7, 8] (by kernel_rfl) ?_
          refine OpsT.cons (Does.yi (Yl.load (d := 43) (T := 27) (v := .agg ((([.int .i64 y11, .string y12, .string y13, .bool y14, .int .i64 y15, .slice A17 y16.length cp18] : List Value))).toArray) (by kernel_rfl) (ldBN ty27 (l := (([.int .i64 y11, .string y12, .string y13, .bool y14, .int .i64 y15, .slice A17 y16.length cp18] : List Value))) (o := 0) (cs := (([.int .i64 y11, .string y12, .string y13, .bool y14, .int .i64 y15, .slice A17 y16.length cp18] : List Value))) (ent_refl _) (by kernel_rfl) (whole _ _ (by kernel_rfl)))) hI ?_)
          refine OpsT.pures (r := [2, 3, 4, 5, 6, 7, 8]) [1] [1, 2, 5, 7, 43, 44] (S' := [(1, .string a1), (2, .pointer (some ⟨b1, 0, none⟩)), (5, .bool y3), (7, .pointer (some ⟨b23, 0, none⟩)), (43, .agg ((([.int .i64 y11, .string y12, .string y13, .bool y14, .int .i64 y15, .slice A17 y16.length cp18] : List Value))).toArray), (44, .string a1)]) (by kernel_rfl) ?_
          obtain ⟨⟨y30, y31, y32, y33, y34, y35, y39⟩, hc29, h0⟩ := bindS h0
          try dsimp only at h0
          refine OpsT.cons (Does.call (d := some 45) (n := 23) (vs := [.agg ((([.int .i64 y11, .string y12, .string y13, .bool y14, .int .i64 y15, .slice A17 y16.length cp18] : List Value))).toArray, .string a1]) (by kernel_rfl) en23 (c23 w0 w _ _ hI (hT.mono hle22) y11 y12 y13 y14 y15 A17 cp18 y16 hr19 a1 _ hc29) ?_)
          rintro e w ⟨A36, cp37, Z40, hle41, rfl, hr38, hI⟩
          refine ⟨_, rfl, ?_⟩
          refine OpsT.pures (r := [6, 7, 8]) [3, 4, 5] [1, 2, 5, 7, 46, 47] (S' := [(1, .string a1), (2, .pointer (some ⟨b1, 0, none⟩)), (5, .bool y3), (7, .pointer (some ⟨b23, 0, none⟩)), (46, .agg ((([.int .i64 y30, .string y31, .string y32, .bool y33, .int .i64 y34, .slice A36 y35.length cp37] : List Value))).toArray), (47, .int .i64 y39)]) (by kernel_rfl) ?_
          refine OpsT.cons (Does.allocL (d := 9) (T := 27) ((([.int .i64 0, .string (⟨#[]⟩ : ByteArray), .string (⟨#[]⟩ : ByteArray), .bool false, .int .i64 0, .slice none 0 0] : List Value))) (by kernel_rfl) ty27 hI (by kernel_rfl) ?_)
          intro b42 w hI
          refine OpsT.cons (Does.storeLit (T := 27) (b := b42) (o := 0) (v := .agg ((([.int .i64 y30, .string y31, .string y32, .bool y33, .int .i64 y34, .slice A36 y35.length cp37] : List Value))).toArray) (l := (([.int .i64 0, .string (⟨#[]⟩ : ByteArray), .string (⟨#[]⟩ : ByteArray), .bool false, .int .i64 0, .slice none 0 0] : List Value))) (vs := (([.int .i64 y30, .string y31, .string y32, .bool y33, .int .i64 y34, .slice A36 y35.length cp37] : List Value))) (L' := (([.int .i64 y30, .string y31, .string y32, .bool y33, .int .i64 y34, .slice A36 y35.length cp37] : List Value))) (by kernel_rfl) ty27 hI (by kernel_rfl) (by kernel_rfl) (by kernel_rfl) (by kernel_rfl) (by kernel_rfl) ?_)
          intro w hI
          refine OpsT.pures (r := []) [8] [1, 2, 5, 7, 9, 10] (S' := [(1, .string a1), (2, .pointer (some ⟨b1, 0, none⟩)), (5, .bool y3), (7, .pointer (some ⟨b23, 0, none⟩)), (9, .pointer (some ⟨b42, 0, none⟩)), (10, .int .i64 y39)]) (by kernel_rfl) ?_
          refine OpsT.done ?_
          refine Qn.then ?_
          refine CodT.seq ?_
          refine CodT.regionL [0] (by kernel_rfl) ?_
          refine OpsT.pures (r := []) [0] [1, 2, 5, 7, 9, 10, 11] (S' := [(1, .string a1), (2, .pointer (some ⟨b1, 0, none⟩)), (5, .bool y3), (7, .pointer (some ⟨b23, 0, none⟩)), (9, .pointer (some ⟨b42, 0, none⟩)), (10, .int .i64 y39), (11, .int .i64 0)]) (by kernel_rfl) ?_
          refine OpsT.done ?_
          refine Qn.then ?_
          refine CodT.seq ?_
          refine CodT.seq ?_
          refine CodT.regionL [0] (by kernel_rfl) ?_
          refine OpsT.pures (r := []) [0] [1, 2, 5, 7, 9, 10, 11, 12] (S' := [(1, .string a1), (2, .pointer (some ⟨b1, 0, none⟩)), (5, .bool y3), (7, .pointer (some ⟨b23, 0, none⟩)), (9, .pointer (some ⟨b42, 0, none⟩)), (10, .int .i64 y39), (11, .int .i64 0), (12, .int .i64 0)]) (by kernel_rfl) ?_
          refine OpsT.done ?_
          refine Qn.then ?_
          obtain ⟨r1, h1, h0⟩ := bindS h0
          refine CodT.meet1 (fun a w => ∃ (x43 : Int), x43 = r1 ∧ Fr 98 [(1, .string a1), (2, .pointer (some ⟨b1, 0, none⟩)), (5, .bool y3), (7, .pointer (some ⟨b23, 0, none⟩)), (9, .pointer (some ⟨b42, 0, none⟩)), (10, .int .i64 y39), (11, .int .i64 x43)] a ∧ Inv w0 Z40 w (star (pt b42 (.cells ((([.int .i64 y30, .string y31, .string y32, .bool y33, .int .i64 y34, .slice A36 y35.length cp37] : List Value))).toArray 27 (0, 0))) (star (pt b23 (.cells ((([.int .i64 y11, .string y12, .string y13, .bool y14, .int .i64 y15, .slice A17 y16.length cp18] : List Value))).toArray 27 (0, 0))) (star (pt b1 (.cells ((([.int .i64 a0_ID, .string a0_Name, .string a0_Data, .bool a0_Sealed, .int .i64 a0_Until, .slice A_a0_Holds a0_Holds.length c_a0_Holds] : List Value))).toArray 27 (0, 0))) A)))) ?_ ?_
          ·
            refine CodT.block ?_
            refine (fun a ha => wp_loopN (fun k a w => ∃ (x44 : Int) (x45 : Int), law07_RuleHolds.l0 y16 a1 k x44 x45 = some r1 ∧ Fr 98 [(1, .string a1), (2, .pointer (some ⟨b1, 0, none⟩)), (5, .bool y3), (7, .pointer (some ⟨b23, 0, none⟩)), (9, .pointer (some ⟨b42, 0, none⟩)), (10, .int .i64 y39), (11, .int .i64 x44), (12, .int .i64 x45)] a ∧ Inv w0 Z40 w (star (pt b42 (.cells ((([.int .i64 y30, .string y31, .string y32, .bool y33, .int .i64 y34, .slice A36 y35.length cp37] : List Value))).toArray 27 (0, 0))) (star (pt b23 (.cells ((([.int .i64 y11, .string y12, .string y13, .bool y14, .int .i64 y15, .slice A17 y16.length cp18] : List Value))).toArray 27 (0, 0))) (star (pt b1 (.cells ((([.int .i64 a0_ID, .string a0_Name, .string a0_Data, .bool a0_Sealed, .int .i64 a0_Until, .slice A_a0_Holds a0_Holds.length c_a0_Holds] : List Value))).toArray 27 (0, 0))) A)))) ?_ FU a w ⟨0, 0, h1, ha.keep [1, 2, 5, 7, 9, 10, 11, 12] (by kernel_rfl), hI⟩)
            clear h1 hI
            rintro k a w ⟨x44, x45, h1, ha, hI⟩
            rcases k with _ | k
            · cases h1
            simp only [law07_RuleHolds.l0] at h1
            refine CodT.of ?_ ha
            refine CodT.seq ?_
            refine CodT.seq ?_
            refine CodT.regionL [0, 1, 2, 3, 4] (by kernel_rfl) ?_
            refine OpsT.pures (r := [2, 3, 4]) [0, 1] [1, 2, 5, 7, 9, 10, 11, 12, 48, 49] (S' := [(1, .string a1), (2, .pointer (some ⟨b1, 0, none⟩)), (5, .bool y3), (7, .pointer (some ⟨b23, 0, none⟩)), (9, .pointer (some ⟨b42, 0, none⟩)), (10, .int .i64 y39), (11, .int .i64 x44), (12, .int .i64 x45), (48, .int .i64 x45), (49, .pointer (some ⟨b23, 5, none⟩))]) (by kernel_rfl) ?_
            refine OpsT.cons (Does.yi (Yl.load (d := 50) (T := 25) (v := .slice A17 y16.length cp18) (by kernel_rfl) (ldB ty25 (l := (([.int .i64 y11, .string y12, .string y13, .bool y14, .int .i64 y15, .slice A17 y16.length cp18] : List Value))) (o := 5) (v := .slice A17 y16.length cp18) (pick2 _ _ _) (by kernel_rfl))) hI ?_)
            refine OpsT.pures (r := []) [3, 4] [1, 2, 5, 7, 9, 10, 11, 12, 52] (S' := [(1, .string a1), (2, .pointer (some ⟨b1, 0, none⟩)), (5, .bool y3), (7, .pointer (some ⟨b23, 0, none⟩)), (9, .pointer (some ⟨b42, 0, none⟩)), (10, .int .i64 y39), (11, .int .i64 x44), (12, .int .i64 x45), (52, .bool (decide (x45 < (y16.length : Int))))]) (by kernel_rfl) ?_
            refine OpsT.done ?_
            refine Qn.then ?_
            by_cases hb46 : (decide (x45 < (y16.length : Int))) = true
            · rw [if_pos hb46] at h1
              refine CodT.yes' (b := decide (x45 < (y16.length : Int))) (by kernel_rfl) hb46 ?_
              refine CodT.skip ?_
              refine Qn.then ?_
              obtain ⟨r2, h2, h1⟩ := bindS h1
              refine CodT.meet (fun a w => ∃ (x47 : Int), x47 = r2 ∧ Fr 98 [(1, .string a1), (2, .pointer (some ⟨b1, 0, none⟩)), (5, .bool y3), (7, .pointer (some ⟨b23, 0, none⟩)), (9, .pointer (some ⟨b42, 0, none⟩)), (10, .int .i64 y39), (11, .int .i64 x47), (12, .int .i64 x45)] a ∧ Inv w0 Z40 w (star (pt b42 (.cells ((([.int .i64 y30, .string y31, .string y32, .bool y33, .int .i64 y34, .slice A36 y35.length cp37] : List Value))).toArray 27 (0, 0))) (star (pt b23 (.cells ((([.int .i64 y11, .string y12, .string y13, .bool y14, .int .i64 y15, .slice A17 y16.length cp18] : List Value))).toArray 27 (0, 0))) (star (pt b1 (.cells ((([.int .i64 a0_ID, .string a0_Name, .string a0_Data, .bool a0_Sealed, .int .i64 a0_Until, .slice A_a0_Holds a0_Holds.length c_a0_Holds] : List Value))).toArray 27 (0, 0))) A)))) ?_ ?_
              ·
                refine CodT.block ?_
                refine CodT.seq ?_
                refine CodT.regionL [0, 1, 2, 3, 4, 5, 6] (by kernel_rfl) ?_
                refine OpsT.pures (r := [1, 2, 3, 4, 5, 6]) [0] [1, 2, 5, 7, 9, 10, 11, 12, 55] (S' := [(1, .string a1), (2, .pointer (some ⟨b1, 0, none⟩)), (5, .bool y3), (7, .pointer (some ⟨b23, 0, none⟩)), (9, .pointer (some ⟨b42, 0, none⟩)), (10, .int .i64 y39), (11, .int .i64 x44), (12, .int .i64 x45), (55, .pointer (some ⟨b23, 5, none⟩))]) (by kernel_rfl) ?_
                refine OpsT.cons (Does.yi (Yl.load (d := 56) (T := 25) (v := .slice A17 y16.length cp18) (by kernel_rfl) (ldB ty25 (l := (([.int .i64 y11, .string y12, .string y13, .bool y14, .int .i64 y15, .slice A17 y16.length cp18] : List Value))) (o := 5) (v := .slice A17 y16.length cp18) (pick2 _ _ _) (by kernel_rfl))) hI ?_)
                refine OpsT.pures (r := [3, 4, 5, 6]) [2] [1, 2, 5, 7, 9, 10, 11, 12, 56, 57] (S' := [(1, .string a1), (2, .pointer (some ⟨b1, 0, none⟩)), (5, .bool y3), (7, .pointer (some ⟨b23, 0, none⟩)), (9, .pointer (some ⟨b42, 0, none⟩)), (10, .int .i64 y39), (11, .int .i64 x44), (12, .int .i64 x45), (56, .slice A17 y16.length cp18), (57, .int .i64 x45)]) (by kernel_rfl) ?_
                obtain ⟨hg48, h2⟩ := guardS h2
                obtain ⟨g49, o53, hA50, hr51, hl52⟩ := RdS.get (hr19.mono hle41) hg48.1 hg48.2
                refine OpsT.cons (Does.yi (Yl.indexSlice (d := 58) (T := 25) (cc := cp18) (k := .i64) (j := x45) (g := g49) (o := o53) (by kernel_rfl) Go.Proofs.Tryd.underlying25 ty9 hA50 hg48.1 hg48.2) hI ?_)
                refine OpsT.cons (Does.yi (Yl.load (d := 59) (T := 9) (v := .string (gt y16 x45)) (by kernel_rfl) (ldR ty9 (v := .string (gt y16 x45)) 0 (fun w hC => hr51 w0 w _ hC) (by kernel_rfl))) hI ?_)
                refine OpsT.pures (r := []) [5, 6] [1, 2, 5, 7, 9, 10, 11, 12, 61] (S' := [(1, .string a1), (2, .pointer (some ⟨b1, 0, none⟩)), (5, .bool y3), (7, .pointer (some ⟨b23, 0, none⟩)), (9, .pointer (some ⟨b42, 0, none⟩)), (10, .int .i64 y39), (11, .int .i64 x44), (12, .int .i64 x45), (61, .bool (seq (gt y16 x45) a1))]) (by kernel_rfl) ?_
                refine OpsT.done ?_
                refine Qn.then ?_
                by_cases hb54 : (seq (gt y16 x45) a1) = true
                · rw [if_pos hb54] at h2
                  refine CodT.yes' (b := seq (gt y16 x45) a1) (by kernel_rfl) hb54 ?_
                  refine CodT.regionL [0, 1, 2] (by kernel_rfl) ?_
                  refine OpsT.pures (r := []) [0, 1, 2] [1, 2, 5, 7, 9, 10, 11, 12] (S' := [(1, .string a1), (2, .pointer (some ⟨b1, 0, none⟩)), (5, .bool y3), (7, .pointer (some ⟨b23, 0, none⟩)), (9, .pointer (some ⟨b42, 0, none⟩)), (10, .int .i64 y39), (11, .int .i64 (wi64 (x44 + 1))), (12, .int .i64 x45)]) (by kernel_rfl) ?_
                  refine OpsT.done ?_
                  refine Qn.block_normal ?_
                  have e := someS h2
                  subst e
                  exact Qn.thenJ fun a ha => ⟨wi64 (x44 + 1), rfl, ha.keep [1, 2, 5, 7, 9, 10, 11, 12] (by kernel_rfl), hI⟩
                · rw [if_neg hb54] at h2
                  refine CodT.no' (b := seq (gt y16 x45) a1) (by kernel_rfl) (by simpa using hb54) ?_
                  refine CodT.skip ?_
                  refine Qn.block_normal ?_
                  have e := someS h2
                  subst e
                  exact Qn.thenJ fun a ha => ⟨x44, rfl, ha.keep [1, 2, 5, 7, 9, 10, 11, 12] (by kernel_rfl), hI⟩
              ·
                rintro a w ⟨x47, rfl, ha, hI⟩
                try dsimp only at h1
                refine CodT.of ?_ ha
                refine CodT.regionL [0, 1, 2] (by kernel_rfl) ?_
                refine OpsT.pures (r := []) [0, 1, 2] [1, 2, 5, 7, 9, 10, 11, 12] (S' := [(1, .string a1), (2, .pointer (some ⟨b1, 0, none⟩)), (5, .bool y3), (7, .pointer (some ⟨b23, 0, none⟩)), (9, .pointer (some ⟨b42, 0, none⟩)), (10, .int .i64 y39), (11, .int .i64 x47), (12, .int .i64 (wi64 (x45 + 1)))]) (by kernel_rfl) ?_
                refine OpsT.done ?_
                exact Qn.thenJ fun a ha => ⟨k, Nat.lt_succ_self k, x47, wi64 (x45 + 1), h1, ha.keep [1, 2, 5, 7, 9, 10, 11, 12] (by kernel_rfl), hI⟩
            · rw [if_neg hb46] at h1
              refine CodT.no' (b := decide (x45 < (y16.length : Int))) (by kernel_rfl) (by simpa using hb46) ?_
              refine CodT.exit ?_
              refine Qn.exit_then ?_
              refine Qn.exit_then ?_
              refine Qn.block ?_
              have e := someS h1
              subst e
              exact Qn.thenJ fun a ha => ⟨x44, rfl, ha.keep [1, 2, 5, 7, 9, 10, 11] (by kernel_rfl), hI⟩
          ·
            rintro a w ⟨x43, rfl, ha, hI⟩
            try dsimp only at h0
            refine Qn.of ?_ ha
            refine Qn.then ?_
            refine CodT.seq ?_
            refine CodT.regionL [0, 1, 2, 3, 4, 5, 6, 7, 8] (by kernel_rfl) ?_
            refine OpsT.cons (Does.yi (Yl.load (d := 65) (T := 27) (v := .agg ((([.int .i64 y11, .string y12, .string y13, .bool y14, .int .i64 y15, .slice A17 y16.length cp18] : List Value))).toArray) (by kernel_rfl) (ldBN ty27 (l := (([.int .i64 y11, .string y12, .string y13, .bool y14, .int .i64 y15, .slice A17 y16.length cp18] : List Value))) (o := 0) (cs := (([.int .i64 y11, .string y12, .string y13, .bool y14, .int .i64 y15, .slice A17 y16.length cp18] : List Value))) (pick2 _ _ _) (by kernel_rfl) (whole _ _ (by kernel_rfl)))) hI ?_)
            refine OpsT.pures (r := [2, 3, 4, 5, 6, 7, 8]) [1] [2, 5, 7, 9, 10, 11, 65, 66] (S' := [(2, .pointer (some ⟨b1, 0, none⟩)), (5, .bool y3), (7, .pointer (some ⟨b23, 0, none⟩)), (9, .pointer (some ⟨b42, 0, none⟩)), (10, .int .i64 y39), (11, .int .i64 x43), (65, .agg ((([.int .i64 y11, .string y12, .string y13, .bool y14, .int .i64 y15, .slice A17 y16.length cp18] : List Value))).toArray), (66, .string a1)]) (by kernel_rfl) ?_
            obtain ⟨⟨y56, y57, y58, y59, y60, y61, y65⟩, hc55, h0⟩ := bindS h0
            try dsimp only at h0
            refine OpsT.cons (Does.call (d := some 67) (n := 22) (vs := [.agg ((([.int .i64 y11, .string y12, .string y13, .bool y14, .int .i64 y15, .slice A17 y16.length cp18] : List Value))).toArray, .string a1]) (by kernel_rfl) en22 (c22 w0 w _ _ hI (hT.mono (Hp.le_trans hle22 hle41)) y11 y12 y13 y14 y15 A17 cp18 y16 (hr19.mono hle41) a1 _ hc55) ?_)
            rintro e w ⟨A62, cp63, Z66, hle67, rfl, hr64, hI⟩
            refine ⟨_, rfl, ?_⟩
            refine OpsT.pures (r := [6, 7, 8]) [3, 4, 5] [2, 5, 7, 9, 10, 11, 68, 69] (S' := [(2, .pointer (some ⟨b1, 0, none⟩)), (5, .bool y3), (7, .pointer (some ⟨b23, 0, none⟩)), (9, .pointer (some ⟨b42, 0, none⟩)), (10, .int .i64 y39), (11, .int .i64 x43), (68, .agg ((([.int .i64 y56, .string y57, .string y58, .bool y59, .int .i64 y60, .slice A62 y61.length cp63] : List Value))).toArray), (69, .int .i64 y65)]) (by kernel_rfl) ?_
            refine OpsT.cons (Does.allocL (d := 13) (T := 27) ((([.int .i64 0, .string (⟨#[]⟩ : ByteArray), .string (⟨#[]⟩ : ByteArray), .bool false, .int .i64 0, .slice none 0 0] : List Value))) (by kernel_rfl) ty27 hI (by kernel_rfl) ?_)
            intro b68 w hI
            refine OpsT.cons (Does.storeLit (T := 27) (b := b68) (o := 0) (v := .agg ((([.int .i64 y56, .string y57, .string y58, .bool y59, .int .i64 y60, .slice A62 y61.length cp63] : List Value))).toArray) (l := (([.int .i64 0, .string (⟨#[]⟩ : ByteArray), .string (⟨#[]⟩ : ByteArray), .bool false, .int .i64 0, .slice none 0 0] : List Value))) (vs := (([.int .i64 y56, .string y57, .string y58, .bool y59, .int .i64 y60, .slice A62 y61.length cp63] : List Value))) (L' := (([.int .i64 y56, .string y57, .string y58, .bool y59, .int .i64 y60, .slice A62 y61.length cp63] : List Value))) (by kernel_rfl) ty27 hI (by kernel_rfl) (by kernel_rfl) (by kernel_rfl) (by kernel_rfl) (by kernel_rfl) ?_)
            intro w hI
            refine OpsT.pures (r := []) [8] [2, 5, 7, 9, 10, 11, 14] (S' := [(2, .pointer (some ⟨b1, 0, none⟩)), (5, .bool y3), (7, .pointer (some ⟨b23, 0, none⟩)), (9, .pointer (some ⟨b42, 0, none⟩)), (10, .int .i64 y39), (11, .int .i64 x43), (14, .int .i64 y65)]) (by kernel_rfl) ?_
            refine OpsT.done ?_
            refine Qn.then ?_
            obtain ⟨r1, h1, h0⟩ := bindS h0
            refine CodT.meet (fun a w => ∃ (x69 : Bool), x69 = r1 ∧ Fr 98 [(4, .bool x69)] a ∧ Inv w0 Z66 w A) ?_ ?_
            ·
              refine CodT.regionL [0, 1, 2, 3, 4, 5, 6, 7, 8, 9, 10, 11, 12, 13, 14, 15, 16, 17, 18, 19, 20, 21, 22, 23, 24, 25, 26, 27, 28] (by kernel_rfl) ?_
              refine OpsT.pures (r := [2, 3, 4, 5, 6, 7, 8, 9, 10, 11, 12, 13, 14, 15, 16, 17, 18, 19, 20, 21, 22, 23, 24, 25, 26, 27, 28]) [0, 1] [2, 7, 9, 10, 11, 14, 71] (S' := [(2, .pointer (some ⟨b1, 0, none⟩)), (7, .pointer (some ⟨b23, 0, none⟩)), (9, .pointer (some ⟨b42, 0, none⟩)), (10, .int .i64 y39), (11, .int .i64 x43), (14, .int .i64 y65), (71, .bool y3)]) (by kernel_rfl) ?_
              by_cases hb70 : y3 = true
              · rw [if_pos hb70] at h1
                refine OpsT.keep [2, 7, 9, 10, 11, 14, 71] (S' := [(2, .pointer (some ⟨b1, 0, none⟩)), (7, .pointer (some ⟨b23, 0, none⟩)), (9, .pointer (some ⟨b42, 0, none⟩)), (10, .int .i64 y39), (11, .int .i64 x43), (14, .int .i64 y65), (71, .bool true)]) (by (try simp only [hb70]); kernel_rfl) ?_
                refine OpsT.pures (r := [6, 7, 8, 9, 10, 11, 12, 13, 14, 15, 16, 17, 18, 19, 20, 21, 22, 23, 24, 25, 26, 27, 28]) [2, 3, 4, 5] [2, 7, 9, 11, 14, 75] (S' := [(2, .pointer (some ⟨b1, 0, none⟩)), (7, .pointer (some ⟨b23, 0, none⟩)), (9, .pointer (some ⟨b42, 0, none⟩)), (11, .int .i64 x43), (14, .int .i64 y65), (75, .bool (y39 == 0))]) (by kernel_rfl) ?_
                by_cases hb71 : (y39 == 0) = true
                · rw [if_pos hb71] at h1
                  refine OpsT.keep [2, 7, 9, 11, 14, 75] (S' := [(2, .pointer (some ⟨b1, 0, none⟩)), (7, .pointer (some ⟨b23, 0, none⟩)), (9, .pointer (some ⟨b42, 0, none⟩)), (11, .int .i64 x43), (14, .int .i64 y65), (75, .bool true)]) (by (try simp only [hb71]); kernel_rfl) ?_
                  refine OpsT.cons (Does.yi (Yl.load (d := 76) (T := 27) (v := .agg ((([.int .i64 a0_ID, .string a0_Name, .string a0_Data, .bool a0_Sealed, .int .i64 a0_Until, .slice A_a0_Holds a0_Holds.length c_a0_Holds] : List Value))).toArray) (by kernel_rfl) (ldBN ty27 (l := (([.int .i64 a0_ID, .string a0_Name, .string a0_Data, .bool a0_Sealed, .int .i64 a0_Until, .slice A_a0_Holds a0_Holds.length c_a0_Holds] : List Value))) (o := 0) (cs := (([.int .i64 a0_ID, .string a0_Name, .string a0_Data, .bool a0_Sealed, .int .i64 a0_Until, .slice A_a0_Holds a0_Holds.length c_a0_Holds] : List Value))) (pick4 _ _ _ _ _) (by kernel_rfl) (whole _ _ (by kernel_rfl)))) hI ?_)
                  refine OpsT.cons (Does.yi (Yl.load (d := 77) (T := 27) (v := .agg ((([.int .i64 y30, .string y31, .string y32, .bool y33, .int .i64 y34, .slice A36 y35.length cp37] : List Value))).toArray) (by kernel_rfl) (ldBN ty27 (l := (([.int .i64 y30, .string y31, .string y32, .bool y33, .int .i64 y34, .slice A36 y35.length cp37] : List Value))) (o := 0) (cs := (([.int .i64 y30, .string y31, .string y32, .bool y33, .int .i64 y34, .slice A36 y35.length cp37] : List Value))) (pick2 _ _ _) (by kernel_rfl) (whole _ _ (by kernel_rfl)))) hI ?_)
                  obtain ⟨y73, hc72, h1⟩ := bindS h1
                  try dsimp only at h1
                  refine OpsT.cons (Does.call (d := some 78) (n := 24) (vs := [.agg ((([.int .i64 a0_ID, .string a0_Name, .string a0_Data, .bool a0_Sealed, .int .i64 a0_Until, .slice A_a0_Holds a0_Holds.length c_a0_Holds] : List Value))).toArray, .agg ((([.int .i64 y30, .string y31, .string y32, .bool y33, .int .i64 y34, .slice A36 y35.length cp37] : List Value))).toArray]) (by kernel_rfl) en24 (c24 w0 w _ _ hI (hT.mono (Hp.le_trans (Hp.le_trans hle22 hle41) hle67)) a0_ID a0_Name a0_Data a0_Sealed a0_Until A_a0_Holds c_a0_Holds a0_Holds (hr_a0_Holds.mono (Hp.le_trans (Hp.le_trans hle22 hle41) hle67)) y30 y31 y32 y33 y34 A36 cp37 y35 (hr38.mono hle67) _ hc72) ?_)
                  rintro e w ⟨rfl, hI⟩
                  refine ⟨_, rfl, ?_⟩
                  refine OpsT.pures (r := [11, 12, 13, 14, 15, 16, 17, 18, 19, 20, 21, 22, 23, 24, 25, 26, 27, 28]) [9, 10] [2, 7, 11, 14, 80] (S' := [(2, .pointer (some ⟨b1, 0, none⟩)), (7, .pointer (some ⟨b23, 0, none⟩)), (11, .int .i64 x43), (14, .int .i64 y65), (80, .bool y73)]) (by kernel_rfl) ?_
                  by_cases hb74 : y73 = true
                  · rw [if_pos hb74] at h1
                    refine OpsT.keep [2, 7, 11, 14, 80] (S' := [(2, .pointer (some ⟨b1, 0, none⟩)), (7, .pointer (some ⟨b23, 0, none⟩)), (11, .int .i64 x43), (14, .int .i64 y65), (80, .bool true)]) (by (try simp only [hb74]); kernel_rfl) ?_
                    refine OpsT.pures (r := [15, 16, 17, 18, 19, 20, 21, 22, 23, 24, 25, 26, 27, 28]) [11, 12, 13, 14] [2, 7, 14, 84] (S' := [(2, .pointer (some ⟨b1, 0, none⟩)), (7, .pointer (some ⟨b23, 0, none⟩)), (14, .int .i64 y65), (84, .bool (x43 == 1))]) (by kernel_rfl) ?_
                    by_cases hb75 : (x43 == 1) = true
                    · rw [if_pos hb75] at h1
                      refine OpsT.keep [2, 7, 14, 84] (S' := [(2, .pointer (some ⟨b1, 0, none⟩)), (7, .pointer (some ⟨b23, 0, none⟩)), (14, .int .i64 y65), (84, .bool true)]) (by (try simp only [hb75]); kernel_rfl) ?_
                      refine OpsT.pures (r := [19, 20, 21, 22, 23, 24, 25, 26, 27, 28]) [15, 16, 17, 18] [2, 7, 88] (S' := [(2, .pointer (some ⟨b1, 0, none⟩)), (7, .pointer (some ⟨b23, 0, none⟩)), (88, .bool (y65 == 4))]) (by kernel_rfl) ?_
                      by_cases hb76 : (y65 == 4) = true
                      · rw [if_pos hb76] at h1
                        refine OpsT.keep [2, 7, 88] (S' := [(2, .pointer (some ⟨b1, 0, none⟩)), (7, .pointer (some ⟨b23, 0, none⟩)), (88, .bool true)]) (by (try simp only [hb76]); kernel_rfl) ?_
                        refine OpsT.pures (r := [20, 21, 22, 23, 24, 25, 26, 27, 28]) [19] [2, 88, 89] (S' := [(2, .pointer (some ⟨b1, 0, none⟩)), (88, .bool true), (89, .pointer (some ⟨b23, 5, none⟩))]) (by kernel_rfl) ?_
                        refine OpsT.cons (Does.yi (Yl.load (d := 90) (T := 25) (v := .slice A17 y16.length cp18) (by kernel_rfl) (ldB ty25 (l := (([.int .i64 y11, .string y12, .string y13, .bool y14, .int .i64 y15, .slice A17 y16.length cp18] : List Value))) (o := 5) (v := .slice A17 y16.length cp18) (pick3 _ _ _ _) (by kernel_rfl))) hI ?_)
                        refine OpsT.pures (r := [23, 24, 25, 26, 27, 28]) [21, 22] [88, 91, 92] (S' := [(88, .bool true), (91, .int .i64 (y16.length : Int)), (92, .pointer (some ⟨b1, 5, none⟩))]) (by kernel_rfl) ?_
                        refine OpsT.cons (Does.yi (Yl.load (d := 93) (T := 25) (v := .slice A_a0_Holds a0_Holds.length c_a0_Holds) (by kernel_rfl) (ldB ty25 (l := (([.int .i64 a0_ID, .string a0_Name, .string a0_Data, .bool a0_Sealed, .int .i64 a0_Until, .slice A_a0_Holds a0_Holds.length c_a0_Holds] : List Value))) (o := 5) (v := .slice A_a0_Holds a0_Holds.length c_a0_Holds) (pick4 _ _ _ _ _) (by kernel_rfl))) hI ?_)
                        refine OpsT.pures (r := []) [24, 25, 26, 27, 28] [4] (S' := [(4, .bool ((y16.length : Int) == (wi64 ((a0_Holds.length : Int) + 1))))]) (by kernel_rfl) ?_
                        refine OpsT.done ?_
                        have hI := hI.drop
                        have hI := hI.drop
                        have hI := hI.drop
                        have hI := hI.drop
                        have e := someS h1
                        subst e
                        exact Qn.thenJ fun a ha => ⟨(y16.length : Int) == (wi64 ((a0_Holds.length : Int) + 1)), rfl, ha.keep [4] (by kernel_rfl), hI⟩
                      · rw [if_neg hb76] at h1
                        have hb76 : (y65 == 4) = false := by simpa using hb76
                        refine OpsT.keep [2, 7, 88] (S' := [(2, .pointer (some ⟨b1, 0, none⟩)), (7, .pointer (some ⟨b23, 0, none⟩)), (88, .bool false)]) (by (try simp only [hb76]); kernel_rfl) ?_
                        refine OpsT.pures (r := []) [19, 20, 21, 22, 23, 24, 25, 26, 27, 28] [4] (S' := [(4, .bool false)]) (by kernel_rfl) ?_
                        refine OpsT.done ?_
                        have hI := hI.drop
                        have hI := hI.drop
                        have hI := hI.drop
                        have hI := hI.drop
                        have e := someS h1
                        subst e
                        exact Qn.thenJ fun a ha => ⟨false, rfl, ha.keep [4] (by kernel_rfl), hI⟩
                    · rw [if_neg hb75] at h1
                      have hb75 : (x43 == 1) = false := by simpa using hb75
                      refine OpsT.keep [2, 7, 14, 84] (S' := [(2, .pointer (some ⟨b1, 0, none⟩)), (7, .pointer (some ⟨b23, 0, none⟩)), (14, .int .i64 y65), (84, .bool false)]) (by (try simp only [hb75]); kernel_rfl) ?_
                      refine OpsT.pures (r := []) [15, 16, 17, 18, 19, 20, 21, 22, 23, 24, 25, 26, 27, 28] [4] (S' := [(4, .bool false)]) (by kernel_rfl) ?_
                      refine OpsT.done ?_
                      have hI := hI.drop
                      have hI := hI.drop
                      have hI := hI.drop
                      have hI := hI.drop
                      have e := someS h1
                      subst e
                      exact Qn.thenJ fun a ha => ⟨false, rfl, ha.keep [4] (by kernel_rfl), hI⟩
                  · rw [if_neg hb74] at h1
                    have hb74 : y73 = false := by simpa using hb74
                    refine OpsT.keep [2, 7, 11, 14, 80] (S' := [(2, .pointer (some ⟨b1, 0, none⟩)), (7, .pointer (some ⟨b23, 0, none⟩)), (11, .int .i64 x43), (14, .int .i64 y65), (80, .bool false)]) (by (try simp only [hb74]); kernel_rfl) ?_
                    refine OpsT.pures (r := []) [11, 12, 13, 14, 15, 16, 17, 18, 19, 20, 21, 22, 23, 24, 25, 26, 27, 28] [4] (S' := [(4, .bool false)]) (by kernel_rfl) ?_
                    refine OpsT.done ?_
                    have hI := hI.drop
                    have hI := hI.drop
                    have hI := hI.drop
                    have hI := hI.drop
                    have e := someS h1
                    subst e
                    exact Qn.thenJ fun a ha => ⟨false, rfl, ha.keep [4] (by kernel_rfl), hI⟩
                · rw [if_neg hb71] at h1
                  have hb71 : (y39 == 0) = false := by simpa using hb71
                  refine OpsT.keep [2, 7, 9, 11, 14, 75] (S' := [(2, .pointer (some ⟨b1, 0, none⟩)), (7, .pointer (some ⟨b23, 0, none⟩)), (9, .pointer (some ⟨b42, 0, none⟩)), (11, .int .i64 x43), (14, .int .i64 y65), (75, .bool false)]) (by (try simp only [hb71]); kernel_rfl) ?_
                  refine OpsT.pures (r := []) [6, 7, 8, 9, 10, 11, 12, 13, 14, 15, 16, 17, 18, 19, 20, 21, 22, 23, 24, 25, 26, 27, 28] [4] (S' := [(4, .bool false)]) (by kernel_rfl) ?_
                  refine OpsT.done ?_
                  have hI := hI.drop
                  have hI := hI.drop
                  have hI := hI.drop
                  have hI := hI.drop
                  have e := someS h1
                  subst e
                  exact Qn.thenJ fun a ha => ⟨false, rfl, ha.keep [4] (by kernel_rfl), hI⟩
              · rw [if_neg hb70] at h1
                have hb70 : y3 = false := by simpa using hb70
                refine OpsT.keep [2, 7, 9, 10, 11, 14, 71] (S' := [(2, .pointer (some ⟨b1, 0, none⟩)), (7, .pointer (some ⟨b23, 0, none⟩)), (9, .pointer (some ⟨b42, 0, none⟩)), (10, .int .i64 y39), (11, .int .i64 x43), (14, .int .i64 y65), (71, .bool false)]) (by (try simp only [hb70]); kernel_rfl) ?_
                refine OpsT.pures (r := []) [2, 3, 4, 5, 6, 7, 8, 9, 10, 11, 12, 13, 14, 15, 16, 17, 18, 19, 20, 21, 22, 23, 24, 25, 26, 27, 28] [4] (S' := [(4, .bool false)]) (by kernel_rfl) ?_
                refine OpsT.done ?_
                have hI := hI.drop
                have hI := hI.drop
                have hI := hI.drop
                have hI := hI.drop
                have e := someS h1
                subst e
                exact Qn.thenJ fun a ha => ⟨false, rfl, ha.keep [4] (by kernel_rfl), hI⟩
            ·
              rintro a w ⟨x69, rfl, ha, hI⟩
              try dsimp only at h0
              refine CodT.of ?_ ha
              refine CodT.ret ?_
              have e := someS h0
              subst e
              refine Qn.keep [4] (S' := [(4, .bool x69)]) (by kernel_rfl) ?_
              exact post_ret (v := .bool x69) (fun a ha => RunRes.run (vs := [.bool x69]) (.tmp (t := 4) (by kernel_rfl) .nil) ha (by kernel_rfl)) ⟨rfl, hI.weaken (Hp.le_trans (Hp.le_trans hle22 hle41) hle67)⟩
end Go.Cen
