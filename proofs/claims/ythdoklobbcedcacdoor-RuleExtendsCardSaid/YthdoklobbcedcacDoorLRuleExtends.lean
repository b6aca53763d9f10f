/- The walk of the law RuleExtends, printed by a program of ours. -/
import Derived.Test.YthdoklobbcedcacDoorPx
import Derived.Test.YthdoklobbcedcacDoorWx1
set_option linter.unusedVariables false
set_option linter.unusedSimpArgs false
namespace Go.Cen
set_option maxRecDepth 100000 in
set_option maxHeartbeats 4000000 in
/-- cenotaph/cenotaphlaw07.RuleExtends -/
theorem c8 (w0 w : World) (Z : Hp) (A : HP) (hI : Inv w0 Z w A) (hT : Tabs Z) (a0_ID : Int) (a0_Name : ByteArray) (a0_Data : ByteArray) (a0_Sealed : Bool) (a0_Until : Int) (A_a0_Holds : Option Addr) (c_a0_Holds : Nat) (a0_Holds : (List ByteArray)) (hr_a0_Holds : RdS Z cS 1 A_a0_Holds c_a0_Holds a0_Holds) (a1 : Int) (a2 : Int) (r : Bool) (h0 : law07_RuleExtends a0_ID a0_Name a0_Data a0_Sealed a0_Until a0_Holds a1 a2 = some r) :
    Calls prog 8 #[.agg ((([.int .i64 a0_ID, .string a0_Name, .string a0_Data, .bool a0_Sealed, .int .i64 a0_Until, .slice A_a0_Holds a0_Holds.length c_a0_Holds] : List Value))).toArray, .int .i64 a1, .int .i64 a2] w (fun e w' => e = .returned (.bool r) ∧ Inv w0 Z w' A) := by
  have e4 := calls_intro (R := (fun e w' => e = .returned (.bool r) ∧ Inv w0 Z w' A)) (w := w) (args := [.agg ((([.int .i64 a0_ID, .string a0_Name, .string a0_Data, .bool a0_Sealed, .int .i64 a0_Until, .slice A_a0_Holds a0_Holds.length c_a0_Holds] : List Value))).toArray, .int .i64 a1, .int .i64 a2]) (fn := Go.Proofs.Tryd.f8) 98 Go.Proofs.Tryd.func8 (by rfl) Go.Proofs.Tryd.ntmps8 (by kernel_rfl)
  refine e4 ?_
  clear e4
  unfold law07_RuleExtends at h0
  refine CodT.seq ?_
  refine CodT.regionL [0, 1] (by kernel_rfl) ?_
  refine OpsT.cons (Does.boxL (d := 3) (T := 27) (v := .agg ((([.int .i64 a0_ID, .string a0_Name, .string a0_Data, .bool a0_Sealed, .int .i64 a0_Until, .slice A_a0_Holds a0_Holds.length c_a0_Holds] : List Value))).toArray) ((([.int .i64 a0_ID, .string a0_Name, .string a0_Data, .bool a0_Sealed, .int .i64 a0_Until, .slice A_a0_Holds a0_Holds.length c_a0_Holds] : List Value))) (by kernel_rfl) hI (by kernel_rfl) ?_)
  intro b1 w hI
  refine OpsT.pures (r := []) [1] [1, 2, 3] (S' := [(1, .int .i64 a1), (2, .int .i64 a2), (3, .pointer (some ⟨b1, 0, none⟩))]) (by kernel_rfl) ?_
  refine OpsT.done ?_
  refine Qn.then ?_
  refine CodT.seq ?_
  refine CodT.regionL [0, 1] (by kernel_rfl) ?_
  obtain ⟨y3, hc2, h0⟩ := bindS h0
  try dsimp only at h0
  refine OpsT.cons (Does.call (d := some 17) (n := 10) (vs := []) (by kernel_rfl) en10 (c10 w0 w _ _ hI hT _ hc2) ?_)
  rintro e w ⟨rfl, hI⟩
  refine ⟨_, rfl, ?_⟩
  refine OpsT.pures (r := []) [1] [1, 2, 3, 7] (S' := [(1, .int .i64 a1), (2, .int .i64 a2), (3, .pointer (some ⟨b1, 0, none⟩)), (7, .bool y3)]) (by kernel_rfl) ?_
  refine OpsT.done ?_
  refine Qn.then ?_
  refine CodT.seq ?_
  refine CodT.seq ?_
  refine CodT.regionL [0, 1] (by kernel_rfl) ?_
  refine OpsT.pures (r := []) [0, 1] [1, 2, 3, 7, 19] (S' := [(1, .int .i64 a1), (2, .int .i64 a2), (3, .pointer (some ⟨b1, 0, none⟩)), (7, .bool y3), (19, .bool (!y3))]) (by kernel_rfl) ?_
  refine OpsT.done ?_
  refine Qn.then ?_
  by_cases hb4 : (!y3) = true
  · rw [if_pos hb4] at h0
    refine CodT.yes' (b := !y3) (by kernel_rfl) hb4 ?_
    refine CodT.seq ?_
    refine CodT.regionL [0] (by kernel_rfl) ?_
    refine OpsT.pures (r := []) [0] [6] (S' := [(6, .bool false)]) (by kernel_rfl) ?_
    refine OpsT.done ?_
    refine Qn.then ?_
    refine CodT.ret ?_
    refine Qn.ret_then ?_
    have hI := hI.drop
    have e := someS h0
    subst e
    refine Qn.keep [6] (S' := [(6, .bool false)]) (by kernel_rfl) ?_
    exact post_ret (v := .bool false) (fun a ha => RunRes.run (vs := [.bool false]) (.tmp (t := 6) (by kernel_rfl) .nil) ha (by kernel_rfl)) ⟨rfl, hI⟩
  · rw [if_neg hb4] at h0
    refine CodT.no' (b := !y3) (by kernel_rfl) (by simpa using hb4) ?_
    refine CodT.skip ?_
    refine Qn.then ?_
    refine CodT.seq ?_
    refine CodT.regionL [0, 1, 2] (by kernel_rfl) ?_
    refine OpsT.cons (Does.yi (Yl.load (d := 20) (T := 27) (v := .agg ((([.int .i64 a0_ID, .string a0_Name, .string a0_Data, .bool a0_Sealed, .int .i64 a0_Until, .slice A_a0_Holds a0_Holds.length c_a0_Holds] : List Value))).toArray) (by kernel_rfl) (ldBN ty27 (l := (([.int .i64 a0_ID, .string a0_Name, .string a0_Data, .bool a0_Sealed, .int .i64 a0_Until, .slice A_a0_Holds a0_Holds.length c_a0_Holds] : List Value))) (o := 0) (cs := (([.int .i64 a0_ID, .string a0_Name, .string a0_Data, .bool a0_Sealed, .int .i64 a0_Until, .slice A_a0_Holds a0_Holds.length c_a0_Holds] : List Value))) (ent_refl _) (by kernel_rfl) (whole _ _ (by kernel_rfl)))) hI ?_)
    obtain ⟨y6, hc5, h0⟩ := bindS h0
    try dsimp only at h0
    refine OpsT.cons (Does.call (d := some 21) (n := 11) (vs := [.agg ((([.int .i64 a0_ID, .string a0_Name, .string a0_Data, .bool a0_Sealed, .int .i64 a0_Until, .slice A_a0_Holds a0_Holds.length c_a0_Holds] : List Value))).toArray]) (by kernel_rfl) en11 (c11 w0 w _ _ hI hT a0_ID a0_Name a0_Data a0_Sealed a0_Until A_a0_Holds c_a0_Holds a0_Holds hr_a0_Holds _ hc5) ?_)
    rintro e w ⟨rfl, hI⟩
    refine ⟨_, rfl, ?_⟩
    refine OpsT.pures (r := []) [2] [1, 2, 3, 7, 8] (S' := [(1, .int .i64 a1), (2, .int .i64 a2), (3, .pointer (some ⟨b1, 0, none⟩)), (7, .bool y3), (8, .bool y6)]) (by kernel_rfl) ?_
    refine OpsT.done ?_
    refine Qn.then ?_
    refine CodT.seq ?_
    obtain ⟨r1, h1, h0⟩ := bindS h0
    refine CodT.meet (fun a w => ∃ (x7 : Bool), x7 = r1 ∧ Fr 98 [(1, .int .i64 a1), (2, .int .i64 a2), (3, .pointer (some ⟨b1, 0, none⟩)), (7, .bool y3), (28, .bool x7)] a ∧ Inv w0 Z w (star (pt b1 (.cells ((([.int .i64 a0_ID, .string a0_Name, .string a0_Data, .bool a0_Sealed, .int .i64 a0_Until, .slice A_a0_Holds a0_Holds.length c_a0_Holds] : List Value))).toArray 27 (0, 0))) A)) ?_ ?_
    ·
      refine CodT.regionL [0, 1, 2, 3, 4, 5, 6] (by kernel_rfl) ?_
      refine OpsT.pures (r := [3, 4, 5, 6]) [0, 1, 2] [1, 2, 3, 7, 24] (S' := [(1, .int .i64 a1), (2, .int .i64 a2), (3, .pointer (some ⟨b1, 0, none⟩)), (7, .bool y3), (24, .bool (!y6))]) (by kernel_rfl) ?_
      by_cases hb8 : (!y6) = true
      · rw [if_pos hb8] at h1
        refine OpsT.keep [1, 2, 3, 7, 24] (S' := [(1, .int .i64 a1), (2, .int .i64 a2), (3, .pointer (some ⟨b1, 0, none⟩)), (7, .bool y3), (24, .bool true)]) (by (try simp only [hb8]); kernel_rfl) ?_
        refine OpsT.pures (r := []) [3, 4, 5, 6] [1, 2, 3, 7, 28] (S' := [(1, .int .i64 a1), (2, .int .i64 a2), (3, .pointer (some ⟨b1, 0, none⟩)), (7, .bool y3), (28, .bool true)]) (by kernel_rfl) ?_
        refine OpsT.done ?_
        have e := someS h1
        subst e
        exact Qn.thenJ fun a ha => ⟨true, rfl, ha.keep [1, 2, 3, 7, 28] (by kernel_rfl), hI⟩
      · rw [if_neg hb8] at h1
        have hb8 : (!y6) = false := by simpa using hb8
        refine OpsT.keep [1, 2, 3, 7, 24] (S' := [(1, .int .i64 a1), (2, .int .i64 a2), (3, .pointer (some ⟨b1, 0, none⟩)), (7, .bool y3), (24, .bool false)]) (by (try simp only [hb8]); kernel_rfl) ?_
        refine OpsT.pures (r := []) [3, 4, 5, 6] [1, 2, 3, 7, 28] (S' := [(1, .int .i64 a1), (2, .int .i64 a2), (3, .pointer (some ⟨b1, 0, none⟩)), (7, .bool y3), (28, .bool (decide (a1 > a2)))]) (by kernel_rfl) ?_
        refine OpsT.done ?_
        have e := someS h1
        subst e
        exact Qn.thenJ fun a ha => ⟨decide (a1 > a2), rfl, ha.keep [1, 2, 3, 7, 28] (by kernel_rfl), hI⟩
    ·
      rintro a w ⟨x7, rfl, ha, hI⟩
      try dsimp only at h0
      refine CodT.of ?_ ha
      by_cases hb9 : x7 = true
      · rw [if_pos hb9] at h0
        refine CodT.yes' (b := x7) (by kernel_rfl) hb9 ?_
        refine CodT.seq ?_
        refine CodT.regionL [0, 1] (by kernel_rfl) ?_
        refine OpsT.pures (r := []) [0, 1] [6] (S' := [(6, .bool y3)]) (by kernel_rfl) ?_
        refine OpsT.done ?_
        refine Qn.then ?_
        refine CodT.ret ?_
        refine Qn.ret_then ?_
        have hI := hI.drop
        have e := someS h0
        subst e
        refine Qn.keep [6] (S' := [(6, .bool y3)]) (by kernel_rfl) ?_
        exact post_ret (v := .bool y3) (fun a ha => RunRes.run (vs := [.bool y3]) (.tmp (t := 6) (by kernel_rfl) .nil) ha (by kernel_rfl)) ⟨rfl, hI⟩
      · rw [if_neg hb9] at h0
        refine CodT.no' (b := x7) (by kernel_rfl) (by simpa using hb9) ?_
        refine CodT.skip ?_
        refine Qn.then ?_
        refine CodT.seq ?_
        refine CodT.regionL [0, 1, 2, 3, 4, 5, 6, 7, 8] (by kernel_rfl) ?_
        refine OpsT.cons (Does.yi (Yl.load (d := 31) (T := 27) (v := .agg ((([.int .i64 a0_ID, .string a0_Name, .string a0_Data, .bool a0_Sealed, .int .i64 a0_Until, .slice A_a0_Holds a0_Holds.length c_a0_Holds] : List Value))).toArray) (by kernel_rfl) (ldBN ty27 (l := (([.int .i64 a0_ID, .string a0_Name, .string a0_Data, .bool a0_Sealed, .int .i64 a0_Until, .slice A_a0_Holds a0_Holds.length c_a0_Holds] : List Value))) (o := 0) (cs := (([.int .i64 a0_ID, .string a0_Name, .string a0_Data, .bool a0_Sealed, .int .i64 a0_Until, .slice A_a0_Holds a0_Holds.length c_a0_Holds] : List Value))) (ent_refl _) (by kernel_rfl) (whole _ _ (by kernel_rfl)))) hI ?_)
        refine OpsT.pures (r := [2, 3, 4, 5, 6, 7, 8]) [1] [2, 3, 7, 31, 32] (S' := [(2, .int .i64 a2), (3, .pointer (some ⟨b1, 0, none⟩)), (7, .bool y3), (31, .agg ((([.int .i64 a0_ID, .string a0_Name, .string a0_Data, .bool a0_Sealed, .int .i64 a0_Until, .slice A_a0_Holds a0_Holds.length c_a0_Holds] : List Value))).toArray), (32, .int .i64 a1)]) (by kernel_rfl) ?_
        obtain ⟨⟨y11, y12, y13, y14, y15, y16, y20⟩, hc10, h0⟩ := bindS h0
        try dsimp only at h0
        refine OpsT.cons (Does.call (d := some 33) (n := 21) (vs := [.agg ((([.int .i64 a0_ID, .string a0_Name, .string a0_Data, .bool a0_Sealed, .int .i64 a0_Until, .slice A_a0_Holds a0_Holds.length c_a0_Holds] : List Value))).toArray, .int .i64 a1]) (by kernel_rfl) en21 (c21 w0 w _ _ hI hT a0_ID a0_Name a0_Data a0_Sealed a0_Until A_a0_Holds c_a0_Holds a0_Holds hr_a0_Holds a1 _ hc10) ?_)
        rintro e w ⟨A17, cp18, Z21, hle22, rfl, hr19, hI⟩
        refine ⟨_, rfl, ?_⟩
        refine OpsT.pures (r := [6, 7, 8]) [3, 4, 5] [2, 3, 7, 34, 35] (S' := [(2, .int .i64 a2), (3, .pointer (some ⟨b1, 0, none⟩)), (7, .bool y3), (34, .agg ((([.int .i64 y11, .string y12, .string y13, .bool y14, .int .i64 y15, .slice A17 y16.length cp18] : List Value))).toArray), (35, .int .i64 y20)]) (by kernel_rfl) ?_
        refine OpsT.cons (Does.allocL (d := 9) (T := 27) ((([.int .i64 0, .string (⟨#[]⟩ : ByteArray), .string (⟨#[]⟩ : ByteArray), .bool false, .int .i64 0, .slice none 0 0] : List Value))) (by kernel_rfl) ty27 hI (by kernel_rfl) ?_)
        intro b23 w hI
        refine OpsT.cons (Does.storeLit (T := 27) (b := b23) (o := 0) (v := .agg ((([.int .i64 y11, .string y12, .string y13, .bool y14, .int .i64 y15, .slice A17 y16.length cp18] : List Value))).toArray) (l := (([.int .i64 0, .string (⟨#[]⟩ : ByteArray), .string (⟨#[]⟩ : ByteArray), .bool false, .int .i64 0, .slice none 0 0] : List Value))) (vs := (([.int .i64 y11, .string y12, .string y13, .bool y14, .int .i64 y15, .slice A17 y16.length cp18] : List Value))) (L' := (([.int .i64 y11, .string y12, .string y13, .bool y14, .int .i64 y15, .slice A17 y16.length cp18] : List Value))) (by kernel_rfl) ty27 hI (by kernel_rfl) (by kernel_rfl) (by kernel_rfl) (by kernel_rfl) (by kernel_rfl) ?_)
        intro w hI
        refine OpsT.pures (r := []) [8] [2, 3, 7, 9, 10] (S' := [(2, .int .i64 a2), (3, .pointer (some ⟨b1, 0, none⟩)), (7, .bool y3), (9, .pointer (some ⟨b23, 0, none⟩)), (10, .int .i64 y20)]) (by kernel_rfl) ?_
        refine OpsT.done ?_
        refine Qn.then ?_
        refine CodT.seq ?_
        refine CodT.regionL [0, 1, 2, 3, 4, 5, 6, 7, 8] (by kernel_rfl) ?_
        refine OpsT.cons (Does.yi (Yl.load (d := 37) (T := 27) (v := .agg ((([.int .i64 y11, .string y12, .string y13, .bool y14, .int .i64 y15, .slice A17 y16.length cp18] : List Value))).toArray) (by kernel_rfl) (ldBN ty27 (l := (([.int .i64 y11, .string y12, .string y13, .bool y14, .int .i64 y15, .slice A17 y16.length cp18] : List Value))) (o := 0) (cs := (([.int .i64 y11, .string y12, .string y13, .bool y14, .int .i64 y15, .slice A17 y16.length cp18] : List Value))) (ent_refl _) (by kernel_rfl) (whole _ _ (by kernel_rfl)))) hI ?_)
        refine OpsT.pures (r := [2, 3, 4, 5, 6, 7, 8]) [1] [2, 3, 7, 9, 10, 37, 38] (S' := [(2, .int .i64 a2), (3, .pointer (some ⟨b1, 0, none⟩)), (7, .bool y3), (9, .pointer (some ⟨b23, 0, none⟩)), (10, .int .i64 y20), (37, .agg ((([.int .i64 y11, .string y12, .string y13, .bool y14, .int .i64 y15, .slice A17 y16.length cp18] : List Value))).toArray), (38, .int .i64 a2)]) (by kernel_rfl) ?_
        obtain ⟨⟨y25, y26, y27, y28, y29, y30, y34⟩, hc24, h0⟩ := bindS h0
        try dsimp only at h0
        refine OpsT.cons (Does.call (d := some 39) (n := 21) (vs := [.agg ((([.int .i64 y11, .string y12, .string y13, .bool y14, .int .i64 y15, .slice A17 y16.length cp18] : List Value))).toArray, .int .i64 a2]) (by kernel_rfl) en21 (c21 w0 w _ _ hI (hT.mono hle22) y11 y12 y13 y14 y15 A17 cp18 y16 hr19 a2 _ hc24) ?_)
        rintro e w ⟨A31, cp32, Z35, hle36, rfl, hr33, hI⟩
        refine ⟨_, rfl, ?_⟩
        refine OpsT.pures (r := [6, 7, 8]) [3, 4, 5] [2, 3, 7, 9, 10, 40, 41] (S' := [(2, .int .i64 a2), (3, .pointer (some ⟨b1, 0, none⟩)), (7, .bool y3), (9, .pointer (some ⟨b23, 0, none⟩)), (10, .int .i64 y20), (40, .agg ((([.int .i64 y25, .string y26, .string y27, .bool y28, .int .i64 y29, .slice A31 y30.length cp32] : List Value))).toArray), (41, .int .i64 y34)]) (by kernel_rfl) ?_
        refine OpsT.cons (Does.allocL (d := 11) (T := 27) ((([.int .i64 0, .string (⟨#[]⟩ : ByteArray), .string (⟨#[]⟩ : ByteArray), .bool false, .int .i64 0, .slice none 0 0] : List Value))) (by kernel_rfl) ty27 hI (by kernel_rfl) ?_)
        intro b37 w hI
        refine OpsT.cons (Does.storeLit (T := 27) (b := b37) (o := 0) (v := .agg ((([.int .i64 y25, .string y26, .string y27, .bool y28, .int .i64 y29, .slice A31 y30.length cp32] : List Value))).toArray) (l := (([.int .i64 0, .string (⟨#[]⟩ : ByteArray), .string (⟨#[]⟩ : ByteArray), .bool false, .int .i64 0, .slice none 0 0] : List Value))) (vs := (([.int .i64 y25, .string y26, .string y27, .bool y28, .int .i64 y29, .slice A31 y30.length cp32] : List Value))) (L' := (([.int .i64 y25, .string y26, .string y27, .bool y28, .int .i64 y29, .slice A31 y30.length cp32] : List Value))) (by kernel_rfl) ty27 hI (by kernel_rfl) (by kernel_rfl) (by kernel_rfl) (by kernel_rfl) (by kernel_rfl) ?_)
        intro w hI
        refine OpsT.pures (r := []) [8] [2, 3, 7, 9, 10, 11, 12] (S' := [(2, .int .i64 a2), (3, .pointer (some ⟨b1, 0, none⟩)), (7, .bool y3), (9, .pointer (some ⟨b23, 0, none⟩)), (10, .int .i64 y20), (11, .pointer (some ⟨b37, 0, none⟩)), (12, .int .i64 y34)]) (by kernel_rfl) ?_
        refine OpsT.done ?_
        refine Qn.then ?_
        refine CodT.seq ?_
        refine CodT.regionL [0, 1, 2, 3, 4, 5, 6, 7, 8] (by kernel_rfl) ?_
        refine OpsT.cons (Does.yi (Yl.load (d := 43) (T := 27) (v := .agg ((([.int .i64 a0_ID, .string a0_Name, .string a0_Data, .bool a0_Sealed, .int .i64 a0_Until, .slice A_a0_Holds a0_Holds.length c_a0_Holds] : List Value))).toArray) (by kernel_rfl) (ldBN ty27 (l := (([.int .i64 a0_ID, .string a0_Name, .string a0_Data, .bool a0_Sealed, .int .i64 a0_Until, .slice A_a0_Holds a0_Holds.length c_a0_Holds] : List Value))) (o := 0) (cs := (([.int .i64 a0_ID, .string a0_Name, .string a0_Data, .bool a0_Sealed, .int .i64 a0_Until, .slice A_a0_Holds a0_Holds.length c_a0_Holds] : List Value))) (pick3 _ _ _ _) (by kernel_rfl) (whole _ _ (by kernel_rfl)))) hI ?_)
        refine OpsT.pures (r := [2, 3, 4, 5, 6, 7, 8]) [1] [3, 7, 9, 10, 11, 12, 43, 44] (S' := [(3, .pointer (some ⟨b1, 0, none⟩)), (7, .bool y3), (9, .pointer (some ⟨b23, 0, none⟩)), (10, .int .i64 y20), (11, .pointer (some ⟨b37, 0, none⟩)), (12, .int .i64 y34), (43, .agg ((([.int .i64 a0_ID, .string a0_Name, .string a0_Data, .bool a0_Sealed, .int .i64 a0_Until, .slice A_a0_Holds a0_Holds.length c_a0_Holds] : List Value))).toArray), (44, .int .i64 a2)]) (by kernel_rfl) ?_
        obtain ⟨⟨y39, y40, y41, y42, y43, y44, y48⟩, hc38, h0⟩ := bindS h0
        try dsimp only at h0
        refine OpsT.cons (Does.call (d := some 45) (n := 21) (vs := [.agg ((([.int .i64 a0_ID, .string a0_Name, .string a0_Data, .bool a0_Sealed, .int .i64 a0_Until, .slice A_a0_Holds a0_Holds.length c_a0_Holds] : List Value))).toArray, .int .i64 a2]) (by kernel_rfl) en21 (c21 w0 w _ _ hI (hT.mono (Hp.le_trans hle22 hle36)) a0_ID a0_Name a0_Data a0_Sealed a0_Until A_a0_Holds c_a0_Holds a0_Holds (hr_a0_Holds.mono (Hp.le_trans hle22 hle36)) a2 _ hc38) ?_)
        rintro e w ⟨A45, cp46, Z49, hle50, rfl, hr47, hI⟩
        refine ⟨_, rfl, ?_⟩
        refine OpsT.pures (r := [6, 7, 8]) [3, 4, 5] [3, 7, 9, 10, 11, 12, 46, 47] (S' := [(3, .pointer (some ⟨b1, 0, none⟩)), (7, .bool y3), (9, .pointer (some ⟨b23, 0, none⟩)), (10, .int .i64 y20), (11, .pointer (some ⟨b37, 0, none⟩)), (12, .int .i64 y34), (46, .agg ((([.int .i64 y39, .string y40, .string y41, .bool y42, .int .i64 y43, .slice A45 y44.length cp46] : List Value))).toArray), (47, .int .i64 y48)]) (by kernel_rfl) ?_
        refine OpsT.cons (Does.allocL (d := 13) (T := 27) ((([.int .i64 0, .string (⟨#[]⟩ : ByteArray), .string (⟨#[]⟩ : ByteArray), .bool false, .int .i64 0, .slice none 0 0] : List Value))) (by kernel_rfl) ty27 hI (by kernel_rfl) ?_)
        intro b51 w hI
        refine OpsT.cons (Does.storeLit (T := 27) (b := b51) (o := 0) (v := .agg ((([.int .i64 y39, .string y40, .string y41, .bool y42, .int .i64 y43, .slice A45 y44.length cp46] : List Value))).toArray) (l := (([.int .i64 0, .string (⟨#[]⟩ : ByteArray), .string (⟨#[]⟩ : ByteArray), .bool false, .int .i64 0, .slice none 0 0] : List Value))) (vs := (([.int .i64 y39, .string y40, .string y41, .bool y42, .int .i64 y43, .slice A45 y44.length cp46] : List Value))) (L' := (([.int .i64 y39, .string y40, .string y41, .bool y42, .int .i64 y43, .slice A45 y44.length cp46] : List Value))) (by kernel_rfl) ty27 hI (by kernel_rfl) (by kernel_rfl) (by kernel_rfl) (by kernel_rfl) (by kernel_rfl) ?_)
        intro w hI
        refine OpsT.pures (r := []) [8] [3, 7, 9, 10, 11, 12, 13, 14] (S' := [(3, .pointer (some ⟨b1, 0, none⟩)), (7, .bool y3), (9, .pointer (some ⟨b23, 0, none⟩)), (10, .int .i64 y20), (11, .pointer (some ⟨b37, 0, none⟩)), (12, .int .i64 y34), (13, .pointer (some ⟨b51, 0, none⟩)), (14, .int .i64 y48)]) (by kernel_rfl) ?_
        refine OpsT.done ?_
        refine Qn.then ?_
        refine CodT.seq ?_
        refine CodT.seq ?_
        refine CodT.regionL [0, 1] (by kernel_rfl) ?_
        refine OpsT.pures (r := []) [0, 1] [3, 7, 9, 11, 12, 13, 14, 49] (S' := [(3, .pointer (some ⟨b1, 0, none⟩)), (7, .bool y3), (9, .pointer (some ⟨b23, 0, none⟩)), (11, .pointer (some ⟨b37, 0, none⟩)), (12, .int .i64 y34), (13, .pointer (some ⟨b51, 0, none⟩)), (14, .int .i64 y48), (49, .bool (y20 != 0))]) (by kernel_rfl) ?_
        refine OpsT.done ?_
        refine Qn.then ?_
        by_cases hb52 : (y20 != 0) = true
        · rw [if_pos hb52] at h0
          refine CodT.yes' (b := y20 != 0) (by kernel_rfl) hb52 ?_
          obtain ⟨r1, h1, h0⟩ := bindS h0
          refine CodT.meet (fun a w => ∃ (x53 : Bool), x53 = r1 ∧ Fr 98 [(6, .bool x53)] a ∧ Inv w0 Z49 w A) ?_ ?_
          ·
            refine CodT.regionL [0, 1, 2, 3, 4, 5, 6] (by kernel_rfl) ?_
            refine OpsT.pures (r := [2, 3, 4, 5, 6]) [0, 1] [3, 9, 51] (S' := [(3, .pointer (some ⟨b1, 0, none⟩)), (9, .pointer (some ⟨b23, 0, none⟩)), (51, .bool y3)]) (by kernel_rfl) ?_
            by_cases hb54 : y3 = true
            · rw [if_pos hb54] at h1
              refine OpsT.keep [3, 9, 51] (S' := [(3, .pointer (some ⟨b1, 0, none⟩)), (9, .pointer (some ⟨b23, 0, none⟩)), (51, .bool true)]) (by (try simp only [hb54]); kernel_rfl) ?_
              refine OpsT.cons (Does.yi (Yl.load (d := 52) (T := 27) (v := .agg ((([.int .i64 y11, .string y12, .string y13, .bool y14, .int .i64 y15, .slice A17 y16.length cp18] : List Value))).toArray) (by kernel_rfl) (ldBN ty27 (l := (([.int .i64 y11, .string y12, .string y13, .bool y14, .int .i64 y15, .slice A17 y16.length cp18] : List Value))) (o := 0) (cs := (([.int .i64 y11, .string y12, .string y13, .bool y14, .int .i64 y15, .slice A17 y16.length cp18] : List Value))) (pick3 _ _ _ _) (by kernel_rfl) (whole _ _ (by kernel_rfl)))) hI ?_)
              refine OpsT.cons (Does.yi (Yl.load (d := 53) (T := 27) (v := .agg ((([.int .i64 a0_ID, .string a0_Name, .string a0_Data, .bool a0_Sealed, .int .i64 a0_Until, .slice A_a0_Holds a0_Holds.length c_a0_Holds] : List Value))).toArray) (by kernel_rfl) (ldBN ty27 (l := (([.int .i64 a0_ID, .string a0_Name, .string a0_Data, .bool a0_Sealed, .int .i64 a0_Until, .slice A_a0_Holds a0_Holds.length c_a0_Holds] : List Value))) (o := 0) (cs := (([.int .i64 a0_ID, .string a0_Name, .string a0_Data, .bool a0_Sealed, .int .i64 a0_Until, .slice A_a0_Holds a0_Holds.length c_a0_Holds] : List Value))) (pick4 _ _ _ _ _) (by kernel_rfl) (whole _ _ (by kernel_rfl)))) hI ?_)
              obtain ⟨y56, hc55, h1⟩ := bindS h1
              try dsimp only at h1
              refine OpsT.cons (Does.call (d := some 54) (n := 24) (vs := [.agg ((([.int .i64 y11, .string y12, .string y13, .bool y14, .int .i64 y15, .slice A17 y16.length cp18] : List Value))).toArray, .agg ((([.int .i64 a0_ID, .string a0_Name, .string a0_Data, .bool a0_Sealed, .int .i64 a0_Until, .slice A_a0_Holds a0_Holds.length c_a0_Holds] : List Value))).toArray]) (by kernel_rfl) en24 (c24 w0 w _ _ hI (hT.mono (Hp.le_trans (Hp.le_trans hle22 hle36) hle50)) y11 y12 y13 y14 y15 A17 cp18 y16 (hr19.mono (Hp.le_trans hle36 hle50)) a0_ID a0_Name a0_Data a0_Sealed a0_Until A_a0_Holds c_a0_Holds a0_Holds (hr_a0_Holds.mono (Hp.le_trans (Hp.le_trans hle22 hle36) hle50)) _ hc55) ?_)
              rintro e w ⟨rfl, hI⟩
              refine ⟨_, rfl, ?_⟩
              refine OpsT.pures (r := []) [5, 6] [6] (S' := [(6, .bool y56)]) (by kernel_rfl) ?_
              refine OpsT.done ?_
              have hI := hI.drop
              have hI := hI.drop
              have hI := hI.drop
              have hI := hI.drop
              have e := someS h1
              subst e
              exact Qn.thenJ fun a ha => ⟨y56, rfl, ha.keep [6] (by kernel_rfl), hI⟩
            · rw [if_neg hb54] at h1
              have hb54 : y3 = false := by simpa using hb54
              refine OpsT.keep [3, 9, 51] (S' := [(3, .pointer (some ⟨b1, 0, none⟩)), (9, .pointer (some ⟨b23, 0, none⟩)), (51, .bool false)]) (by (try simp only [hb54]); kernel_rfl) ?_
              refine OpsT.pures (r := []) [2, 3, 4, 5, 6] [6] (S' := [(6, .bool false)]) (by kernel_rfl) ?_
              refine OpsT.done ?_
              have hI := hI.drop
              have hI := hI.drop
              have hI := hI.drop
              have hI := hI.drop
              have e := someS h1
              subst e
              exact Qn.thenJ fun a ha => ⟨false, rfl, ha.keep [6] (by kernel_rfl), hI⟩
          ·
            rintro a w ⟨x53, rfl, ha, hI⟩
            try dsimp only at h0
            refine CodT.of ?_ ha
            refine CodT.ret ?_
            refine Qn.ret_then ?_
            have e := someS h0
            subst e
            refine Qn.keep [6] (S' := [(6, .bool x53)]) (by kernel_rfl) ?_
            exact post_ret (v := .bool x53) (fun a ha => RunRes.run (vs := [.bool x53]) (.tmp (t := 6) (by kernel_rfl) .nil) ha (by kernel_rfl)) ⟨rfl, hI.weaken (Hp.le_trans (Hp.le_trans hle22 hle36) hle50)⟩
        · rw [if_neg hb52] at h0
          refine CodT.no' (b := y20 != 0) (by kernel_rfl) (by simpa using hb52) ?_
          refine CodT.skip ?_
          refine Qn.then ?_
          refine CodT.seq ?_
          refine CodT.seq ?_
          refine CodT.regionL [0, 1] (by kernel_rfl) ?_
          refine OpsT.pures (r := []) [0, 1] [7, 11, 12, 13, 14, 57] (S' := [(7, .bool y3), (11, .pointer (some ⟨b37, 0, none⟩)), (12, .int .i64 y34), (13, .pointer (some ⟨b51, 0, none⟩)), (14, .int .i64 y48), (57, .bool (y34 != 0))]) (by kernel_rfl) ?_
          refine OpsT.done ?_
          refine Qn.then ?_
          by_cases hb57 : (y34 != 0) = true
          · rw [if_pos hb57] at h0
            refine CodT.yes' (b := y34 != 0) (by kernel_rfl) hb57 ?_
            obtain ⟨r1, h1, h0⟩ := bindS h0
            refine CodT.meet (fun a w => ∃ (x58 : Bool), x58 = r1 ∧ Fr 98 [(6, .bool x58)] a ∧ Inv w0 Z49 w A) ?_ ?_
            ·
              refine CodT.regionL [0, 1, 2, 3, 4, 5, 6, 7, 8, 9] (by kernel_rfl) ?_
              refine OpsT.pures (r := [2, 3, 4, 5, 6, 7, 8, 9]) [0, 1] [12, 14, 59] (S' := [(12, .int .i64 y34), (14, .int .i64 y48), (59, .bool y3)]) (by kernel_rfl) ?_
              by_cases hb59 : y3 = true
              · rw [if_pos hb59] at h1
                refine OpsT.keep [12, 14, 59] (S' := [(12, .int .i64 y34), (14, .int .i64 y48), (59, .bool true)]) (by (try simp only [hb59]); kernel_rfl) ?_
                refine OpsT.pures (r := [6, 7, 8, 9]) [2, 3, 4, 5] [14, 63] (S' := [(14, .int .i64 y48), (63, .bool (y34 == 1))]) (by kernel_rfl) ?_
                by_cases hb60 : (y34 == 1) = true
                · rw [if_pos hb60] at h1
                  refine OpsT.keep [14, 63] (S' := [(14, .int .i64 y48), (63, .bool true)]) (by (try simp only [hb60]); kernel_rfl) ?_
                  refine OpsT.pures (r := []) [6, 7, 8, 9] [6] (S' := [(6, .bool (y48 == 1))]) (by kernel_rfl) ?_
                  refine OpsT.done ?_
                  have hI := hI.drop
                  have hI := hI.drop
                  have hI := hI.drop
                  have hI := hI.drop
                  have e := someS h1
                  subst e
                  exact Qn.thenJ fun a ha => ⟨y48 == 1, rfl, ha.keep [6] (by kernel_rfl), hI⟩
                · rw [if_neg hb60] at h1
                  have hb60 : (y34 == 1) = false := by simpa using hb60
                  refine OpsT.keep [14, 63] (S' := [(14, .int .i64 y48), (63, .bool false)]) (by (try simp only [hb60]); kernel_rfl) ?_
                  refine OpsT.pures (r := []) [6, 7, 8, 9] [6] (S' := [(6, .bool false)]) (by kernel_rfl) ?_
                  refine OpsT.done ?_
                  have hI := hI.drop
                  have hI := hI.drop
                  have hI := hI.drop
                  have hI := hI.drop
                  have e := someS h1
                  subst e
                  exact Qn.thenJ fun a ha => ⟨false, rfl, ha.keep [6] (by kernel_rfl), hI⟩
              · rw [if_neg hb59] at h1
                have hb59 : y3 = false := by simpa using hb59
                refine OpsT.keep [12, 14, 59] (S' := [(12, .int .i64 y34), (14, .int .i64 y48), (59, .bool false)]) (by (try simp only [hb59]); kernel_rfl) ?_
                refine OpsT.pures (r := []) [2, 3, 4, 5, 6, 7, 8, 9] [6] (S' := [(6, .bool false)]) (by kernel_rfl) ?_
                refine OpsT.done ?_
                have hI := hI.drop
                have hI := hI.drop
                have hI := hI.drop
                have hI := hI.drop
                have e := someS h1
                subst e
                exact Qn.thenJ fun a ha => ⟨false, rfl, ha.keep [6] (by kernel_rfl), hI⟩
            ·
              rintro a w ⟨x58, rfl, ha, hI⟩
              try dsimp only at h0
              refine CodT.of ?_ ha
              refine CodT.ret ?_
              refine Qn.ret_then ?_
              have e := someS h0
              subst e
              refine Qn.keep [6] (S' := [(6, .bool x58)]) (by kernel_rfl) ?_
              exact post_ret (v := .bool x58) (fun a ha => RunRes.run (vs := [.bool x58]) (.tmp (t := 6) (by kernel_rfl) .nil) ha (by kernel_rfl)) ⟨rfl, hI.weaken (Hp.le_trans (Hp.le_trans hle22 hle36) hle50)⟩
          · rw [if_neg hb57] at h0
            refine CodT.no' (b := y34 != 0) (by kernel_rfl) (by simpa using hb57) ?_
            refine CodT.skip ?_
            refine Qn.then ?_
            refine CodT.seq ?_
            refine CodT.regionL [0, 1, 2, 3, 4, 5, 6, 7, 8, 9, 10] (by kernel_rfl) ?_
            refine OpsT.cons (Does.yi (Yl.load (d := 68) (T := 27) (v := .agg ((([.int .i64 y25, .string y26, .string y27, .bool y28, .int .i64 y29, .slice A31 y30.length cp32] : List Value))).toArray) (by kernel_rfl) (ldBN ty27 (l := (([.int .i64 y25, .string y26, .string y27, .bool y28, .int .i64 y29, .slice A31 y30.length cp32] : List Value))) (o := 0) (cs := (([.int .i64 y25, .string y26, .string y27, .bool y28, .int .i64 y29, .slice A31 y30.length cp32] : List Value))) (pick2 _ _ _) (by kernel_rfl) (whole _ _ (by kernel_rfl)))) hI ?_)
            refine OpsT.pures (r := [2, 3, 4, 5, 6, 7, 8, 9, 10]) [1] [7, 11, 13, 14, 68, 69] (S' := [(7, .bool y3), (11, .pointer (some ⟨b37, 0, none⟩)), (13, .pointer (some ⟨b51, 0, none⟩)), (14, .int .i64 y48), (68, .agg ((([.int .i64 y25, .string y26, .string y27, .bool y28, .int .i64 y29, .slice A31 y30.length cp32] : List Value))).toArray), (69, .pointer (some ⟨b37, 4, none⟩))]) (by kernel_rfl) ?_
            refine OpsT.cons (Does.yi (Yl.load (d := 70) (T := 3) (v := .int .i64 y29) (by kernel_rfl) (ldB ty3 (l := (([.int .i64 y25, .string y26, .string y27, .bool y28, .int .i64 y29, .slice A31 y30.length cp32] : List Value))) (o := 4) (v := .int .i64 y29) (pick2 _ _ _) (by kernel_rfl))) hI ?_)
            refine OpsT.pures (r := [4, 5, 6, 7, 8, 9, 10]) [3] [7, 11, 13, 14, 68, 71] (S' := [(7, .bool y3), (11, .pointer (some ⟨b37, 0, none⟩)), (13, .pointer (some ⟨b51, 0, none⟩)), (14, .int .i64 y48), (68, .agg ((([.int .i64 y25, .string y26, .string y27, .bool y28, .int .i64 y29, .slice A31 y30.length cp32] : List Value))).toArray), (71, .int .i64 (wi64 (y29 - 1)))]) (by kernel_rfl) ?_
            obtain ⟨⟨y62, y63, y64, y65, y66, y67, y71⟩, hc61, h0⟩ := bindS h0
            try dsimp only at h0
            refine OpsT.cons (Does.call (d := some 72) (n := 21) (vs := [.agg ((([.int .i64 y25, .string y26, .string y27, .bool y28, .int .i64 y29, .slice A31 y30.length cp32] : List Value))).toArray, .int .i64 (wi64 (y29 - 1))]) (by kernel_rfl) en21 (c21 w0 w _ _ hI (hT.mono (Hp.le_trans (Hp.le_trans hle22 hle36) hle50)) y25 y26 y27 y28 y29 A31 cp32 y30 (hr33.mono hle50) (wi64 (y29 - 1)) _ hc61) ?_)
            rintro e w ⟨A68, cp69, Z72, hle73, rfl, hr70, hI⟩
            refine ⟨_, rfl, ?_⟩
            refine OpsT.pures (r := [8, 9, 10]) [5, 6, 7] [7, 11, 13, 14, 73, 74] (S' := [(7, .bool y3), (11, .pointer (some ⟨b37, 0, none⟩)), (13, .pointer (some ⟨b51, 0, none⟩)), (14, .int .i64 y48), (73, .agg ((([.int .i64 y62, .string y63, .string y64, .bool y65, .int .i64 y66, .slice A68 y67.length cp69] : List Value))).toArray), (74, .int .i64 y71)]) (by kernel_rfl) ?_
            refine OpsT.cons (Does.allocL (d := 15) (T := 27) ((([.int .i64 0, .string (⟨#[]⟩ : ByteArray), .string (⟨#[]⟩ : ByteArray), .bool false, .int .i64 0, .slice none 0 0] : List Value))) (by kernel_rfl) ty27 hI (by kernel_rfl) ?_)
            intro b74 w hI
            refine OpsT.cons (Does.storeLit (T := 27) (b := b74) (o := 0) (v := .agg ((([.int .i64 y62, .string y63, .string y64, .bool y65, .int .i64 y66, .slice A68 y67.length cp69] : List Value))).toArray) (l := (([.int .i64 0, .string (⟨#[]⟩ : ByteArray), .string (⟨#[]⟩ : ByteArray), .bool false, .int .i64 0, .slice none 0 0] : List Value))) (vs := (([.int .i64 y62, .string y63, .string y64, .bool y65, .int .i64 y66, .slice A68 y67.length cp69] : List Value))) (L' := (([.int .i64 y62, .string y63, .string y64, .bool y65, .int .i64 y66, .slice A68 y67.length cp69] : List Value))) (by kernel_rfl) ty27 hI (by kernel_rfl) (by kernel_rfl) (by kernel_rfl) (by kernel_rfl) (by kernel_rfl) ?_)
            intro w hI
            refine OpsT.pures (r := []) [10] [7, 11, 13, 14, 16] (S' := [(7, .bool y3), (11, .pointer (some ⟨b37, 0, none⟩)), (13, .pointer (some ⟨b51, 0, none⟩)), (14, .int .i64 y48), (16, .int .i64 y71)]) (by kernel_rfl) ?_
            refine OpsT.done ?_
            refine Qn.then ?_
            obtain ⟨r1, h1, h0⟩ := bindS h0
            refine CodT.meet (fun a w => ∃ (x75 : Bool), x75 = r1 ∧ Fr 98 [(6, .bool x75)] a ∧ Inv w0 Z72 w A) ?_ ?_
            ·
              refine CodT.regionL [0, 1, 2, 3, 4, 5, 6, 7, 8, 9, 10, 11, 12, 13, 14, 15, 16, 17, 18, 19, 20, 21, 22, 23] (by kernel_rfl) ?_
              refine OpsT.pures (r := [2, 3, 4, 5, 6, 7, 8, 9, 10, 11, 12, 13, 14, 15, 16, 17, 18, 19, 20, 21, 22, 23]) [0, 1] [11, 13, 14, 16, 76] (S' := [(11, .pointer (some ⟨b37, 0, none⟩)), (13, .pointer (some ⟨b51, 0, none⟩)), (14, .int .i64 y48), (16, .int .i64 y71), (76, .bool y3)]) (by kernel_rfl) ?_
              by_cases hb76 : y3 = true
              · rw [if_pos hb76] at h1
                refine OpsT.keep [11, 13, 14, 16, 76] (S' := [(11, .pointer (some ⟨b37, 0, none⟩)), (13, .pointer (some ⟨b51, 0, none⟩)), (14, .int .i64 y48), (16, .int .i64 y71), (76, .bool true)]) (by (try simp only [hb76]); kernel_rfl) ?_
                refine OpsT.pures (r := [6, 7, 8, 9, 10, 11, 12, 13, 14, 15, 16, 17, 18, 19, 20, 21, 22, 23]) [2, 3, 4, 5] [11, 13, 16, 80] (S' := [(11, .pointer (some ⟨b37, 0, none⟩)), (13, .pointer (some ⟨b51, 0, none⟩)), (16, .int .i64 y71), (80, .bool (y48 == 0))]) (by kernel_rfl) ?_
                by_cases hb77 : (y48 == 0) = true
                · rw [if_pos hb77] at h1
                  refine OpsT.keep [11, 13, 16, 80] (S' := [(11, .pointer (some ⟨b37, 0, none⟩)), (13, .pointer (some ⟨b51, 0, none⟩)), (16, .int .i64 y71), (80, .bool true)]) (by (try simp only [hb77]); kernel_rfl) ?_
                  refine OpsT.cons (Does.yi (Yl.load (d := 81) (T := 27) (v := .agg ((([.int .i64 y25, .string y26, .string y27, .bool y28, .int .i64 y29, .slice A31 y30.length cp32] : List Value))).toArray) (by kernel_rfl) (ldBN ty27 (l := (([.int .i64 y25, .string y26, .string y27, .bool y28, .int .i64 y29, .slice A31 y30.length cp32] : List Value))) (o := 0) (cs := (([.int .i64 y25, .string y26, .string y27, .bool y28, .int .i64 y29, .slice A31 y30.length cp32] : List Value))) (pick3 _ _ _ _) (by kernel_rfl) (whole _ _ (by kernel_rfl)))) hI ?_)
                  refine OpsT.cons (Does.yi (Yl.load (d := 82) (T := 27) (v := .agg ((([.int .i64 y39, .string y40, .string y41, .bool y42, .int .i64 y43, .slice A45 y44.length cp46] : List Value))).toArray) (by kernel_rfl) (ldBN ty27 (l := (([.int .i64 y39, .string y40, .string y41, .bool y42, .int .i64 y43, .slice A45 y44.length cp46] : List Value))) (o := 0) (cs := (([.int .i64 y39, .string y40, .string y41, .bool y42, .int .i64 y43, .slice A45 y44.length cp46] : List Value))) (pick2 _ _ _) (by kernel_rfl) (whole _ _ (by kernel_rfl)))) hI ?_)
                  obtain ⟨y79, hc78, h1⟩ := bindS h1
                  try dsimp only at h1
                  refine OpsT.cons (Does.call (d := some 83) (n := 24) (vs := [.agg ((([.int .i64 y25, .string y26, .string y27, .bool y28, .int .i64 y29, .slice A31 y30.length cp32] : List Value))).toArray, .agg ((([.int .i64 y39, .string y40, .string y41, .bool y42, .int .i64 y43, .slice A45 y44.length cp46] : List Value))).toArray]) (by kernel_rfl) en24 (c24 w0 w _ _ hI (hT.mono (Hp.le_trans (Hp.le_trans (Hp.le_trans hle22 hle36) hle50) hle73)) y25 y26 y27 y28 y29 A31 cp32 y30 (hr33.mono (Hp.le_trans hle50 hle73)) y39 y40 y41 y42 y43 A45 cp46 y44 (hr47.mono hle73) _ hc78) ?_)
                  rintro e w ⟨rfl, hI⟩
                  refine ⟨_, rfl, ?_⟩
                  refine OpsT.pures (r := [11, 12, 13, 14, 15, 16, 17, 18, 19, 20, 21, 22, 23]) [9, 10] [11, 16, 85] (S' := [(11, .pointer (some ⟨b37, 0, none⟩)), (16, .int .i64 y71), (85, .bool y79)]) (by kernel_rfl) ?_
                  by_cases hb80 : y79 = true
                  · rw [if_pos hb80] at h1
                    refine OpsT.keep [11, 16, 85] (S' := [(11, .pointer (some ⟨b37, 0, none⟩)), (16, .int .i64 y71), (85, .bool true)]) (by (try simp only [hb80]); kernel_rfl) ?_
                    refine OpsT.pures (r := [14, 15, 16, 17, 18, 19, 20, 21, 22, 23]) [11, 12, 13] [11, 16, 85, 88] (S' := [(11, .pointer (some ⟨b37, 0, none⟩)), (16, .int .i64 y71), (85, .bool true), (88, .bool (y71 == 7))]) (by kernel_rfl) ?_
                    by_cases hb81 : (y71 == 7) = true
                    · rw [if_pos hb81] at h1
                      refine OpsT.keep [11, 16, 85, 88] (S' := [(11, .pointer (some ⟨b37, 0, none⟩)), (16, .int .i64 y71), (85, .bool true), (88, .bool true)]) (by (try simp only [hb81]); kernel_rfl) ?_
                      refine OpsT.pures (r := []) [14, 15, 16, 17, 18, 19, 20, 21, 22, 23] [6] (S' := [(6, .bool true)]) (by kernel_rfl) ?_
                      refine OpsT.done ?_
                      have hI := hI.drop
                      have hI := hI.drop
                      have hI := hI.drop
                      have hI := hI.drop
                      have hI := hI.drop
                      have e := someS h1
                      subst e
                      exact Qn.thenJ fun a ha => ⟨true, rfl, ha.keep [6] (by kernel_rfl), hI⟩
                    · rw [if_neg hb81] at h1
                      have hb81 : (y71 == 7) = false := by simpa using hb81
                      refine OpsT.keep [11, 16, 85, 88] (S' := [(11, .pointer (some ⟨b37, 0, none⟩)), (16, .int .i64 y71), (85, .bool true), (88, .bool false)]) (by (try simp only [hb81]); kernel_rfl) ?_
                      refine OpsT.pures (r := [17, 18, 19, 20, 21, 22, 23]) [14, 15, 16] [11, 85, 88, 91] (S' := [(11, .pointer (some ⟨b37, 0, none⟩)), (85, .bool true), (88, .bool false), (91, .bool (y71 == 1))]) (by kernel_rfl) ?_
                      by_cases hb82 : (y71 == 1) = true
                      · rw [if_pos hb82] at h1
                        refine OpsT.keep [11, 85, 88, 91] (S' := [(11, .pointer (some ⟨b37, 0, none⟩)), (85, .bool true), (88, .bool false), (91, .bool true)]) (by (try simp only [hb82]); kernel_rfl) ?_
                        refine OpsT.pures (r := [18, 19, 20, 21, 22, 23]) [17] [85, 88, 91, 92] (S' := [(85, .bool true), (88, .bool false), (91, .bool true), (92, .pointer (some ⟨b37, 4, none⟩))]) (by kernel_rfl) ?_
                        refine OpsT.cons (Does.yi (Yl.load (d := 93) (T := 3) (v := .int .i64 y29) (by kernel_rfl) (ldB ty3 (l := (([.int .i64 y25, .string y26, .string y27, .bool y28, .int .i64 y29, .slice A31 y30.length cp32] : List Value))) (o := 4) (v := .int .i64 y29) (pick3 _ _ _ _) (by kernel_rfl))) hI ?_)
                        refine OpsT.pures (r := []) [19, 20, 21, 22, 23] [6] (S' := [(6, .bool (y29 == 0))]) (by kernel_rfl) ?_
                        refine OpsT.done ?_
                        have hI := hI.drop
                        have hI := hI.drop
                        have hI := hI.drop
                        have hI := hI.drop
                        have hI := hI.drop
                        have e := someS h1
                        subst e
                        exact Qn.thenJ fun a ha => ⟨y29 == 0, rfl, ha.keep [6] (by kernel_rfl), hI⟩
                      · rw [if_neg hb82] at h1
                        have hb82 : (y71 == 1) = false := by simpa using hb82
                        refine OpsT.keep [11, 85, 88, 91] (S' := [(11, .pointer (some ⟨b37, 0, none⟩)), (85, .bool true), (88, .bool false), (91, .bool false)]) (by (try simp only [hb82]); kernel_rfl) ?_
                        refine OpsT.pures (r := []) [17, 18, 19, 20, 21, 22, 23] [6] (S' := [(6, .bool false)]) (by kernel_rfl) ?_
                        refine OpsT.done ?_
                        have hI := hI.drop
                        have hI := hI.drop
                        have hI := hI.drop
                        have hI := hI.drop
                        have hI := hI.drop
                        have e := someS h1
                        subst e
                        exact Qn.thenJ fun a ha => ⟨false, rfl, ha.keep [6] (by kernel_rfl), hI⟩
                  · rw [if_neg hb80] at h1
                    have hb80 : y79 = false := by simpa using hb80
                    refine OpsT.keep [11, 16, 85] (S' := [(11, .pointer (some ⟨b37, 0, none⟩)), (16, .int .i64 y71), (85, .bool false)]) (by (try simp only [hb80]); kernel_rfl) ?_
                    refine OpsT.pures (r := []) [11, 12, 13, 14, 15, 16, 17, 18, 19, 20, 21, 22, 23] [6] (S' := [(6, .bool false)]) (by kernel_rfl) ?_
                    refine OpsT.done ?_
                    have hI := hI.drop
                    have hI := hI.drop
                    have hI := hI.drop
                    have hI := hI.drop
                    have hI := hI.drop
                    have e := someS h1
                    subst e
                    exact Qn.thenJ fun a ha => ⟨false, rfl, ha.keep [6] (by kernel_rfl), hI⟩
                · rw [if_neg hb77] at h1
                  have hb77 : (y48 == 0) = false := by simpa using hb77
                  refine OpsT.keep [11, 13, 16, 80] (S' := [(11, .pointer (some ⟨b37, 0, none⟩)), (13, .pointer (some ⟨b51, 0, none⟩)), (16, .int .i64 y71), (80, .bool false)]) (by (try simp only [hb77]); kernel_rfl) ?_
                  refine OpsT.pures (r := []) [6, 7, 8, 9, 10, 11, 12, 13, 14, 15, 16, 17, 18, 19, 20, 21, 22, 23] [6] (S' := [(6, .bool false)]) (by kernel_rfl) ?_
                  refine OpsT.done ?_
                  have hI := hI.drop
                  have hI := hI.drop
                  have hI := hI.drop
                  have hI := hI.drop
                  have hI := hI.drop
                  have e := someS h1
                  subst e
                  exact Qn.thenJ fun a ha => ⟨false, rfl, ha.keep [6] (by kernel_rfl), hI⟩
              · rw [if_neg hb76] at h1
                have hb76 : y3 = false := by simpa using hb76
                refine OpsT.keep [11, 13, 14, 16, 76] (S' := [(11, .pointer (some ⟨b37, 0, none⟩)), (13, .pointer (some ⟨b51, 0, none⟩)), (14, .int .i64 y48), (16, .int .i64 y71), (76, .bool false)]) (by (try simp only [hb76]); kernel_rfl) ?_
                refine OpsT.pures (r := []) [2, 3, 4, 5, 6, 7, 8, 9, 10, 11, 12, 13, 14, 15, 16, 17, 18, 19, 20, 21, 22, 23] [6] (S' := [(6, .bool false)]) (by kernel_rfl) ?_
                refine OpsT.done ?_
                have hI := hI.drop
                have hI := hI.drop
                have hI := hI.drop
                have hI := hI.drop
                have hI := hI.drop
                have e := someS h1
                subst e
                exact Qn.thenJ fun a ha => ⟨false, rfl, ha.keep [6] (by kernel_rfl), hI⟩
            ·
              rintro a w ⟨x75, rfl, ha, hI⟩
              try dsimp only at h0
              refine CodT.of ?_ ha
              refine CodT.ret ?_
              have e := someS h0
              subst e
              refine Qn.keep [6] (S' := [(6, .bool x75)]) (by kernel_rfl) ?_
              exact post_ret (v := .bool x75) (fun a ha => RunRes.run (vs := [.bool x75]) (.tmp (t := 6) (by kernel_rfl) .nil) ha (by kernel_rfl)) ⟨rfl, hI.weaken (Hp.le_trans (Hp.le_trans (Hp.le_trans hle22 hle36) hle50) hle73)⟩
end Go.Cen
