/- The walk of the law FileAppends, printed by a program of ours. -/
import Derived.Test.YthdoklobbcedcadDoorPx
import Derived.Test.YthdoklobbcedcadDoorWx3
set_option linter.unusedVariables false
set_option linter.unusedSimpArgs false
namespace Go.Cen
set_option maxRecDepth 100000 in
set_option maxHeartbeats 4000000 in
/-- cenotaph/cenotaphlaw08.FileAppends -/
theorem c6 (w0 w : World) (Z : Hp) (A : HP) (hI : Inv w0 Z w A) (hT : Tabs Z) (a0_ID : Int) (a0_Name : ByteArray) (a0_Data : ByteArray) (a0_Sealed : Bool) (a0_Until : Int) (A_a0_Holds : Option Addr) (c_a0_Holds : Nat) (a0_Holds : (List ByteArray)) (hr_a0_Holds : RdS Z cS 1 A_a0_Holds c_a0_Holds a0_Holds) (a1 : ByteArray) (a2 : ByteArray) (r : Bool) (h0 : law08_FileAppends a0_ID a0_Name a0_Data a0_Sealed a0_Until a0_Holds a1 a2 = some r) :
    Calls prog 6 #[.agg ((([.int .i64 a0_ID, .string a0_Name, .string a0_Data, .bool a0_Sealed, .int .i64 a0_Until, .slice A_a0_Holds a0_Holds.length c_a0_Holds] : List Value))).toArray, .string a1, .string a2] w (fun e w' => e = .returned (.bool r) ∧ Inv w0 Z w' A) := by
  have e4 := calls_intro (R := (fun e w' => e = .returned (.bool r) ∧ Inv w0 Z w' A)) (w := w) (args := [.agg ((([.int .i64 a0_ID, .string a0_Name, .string a0_Data, .bool a0_Sealed, .int .i64 a0_Until, .slice A_a0_Holds a0_Holds.length c_a0_Holds] : List Value))).toArray, .string a1, .string a2]) (fn := Go.Proofs.Tryd.f6) 86 Go.Proofs.Tryd.func6 (by rfl) Go.Proofs.Tryd.ntmps6 (by kernel_rfl)
  refine e4 ?_
  clear e4
  unfold law08_FileAppends at h0
  refine CodT.seq ?_
  refine CodT.regionL [0, 1] (by kernel_rfl) ?_
  refine OpsT.cons (Does.boxL (d := 3) (T := 24) (v := .agg ((([.int .i64 a0_ID, .string a0_Name, .string a0_Data, .bool a0_Sealed, .int .i64 a0_Until, .slice A_a0_Holds a0_Holds.length c_a0_Holds] : List Value))).toArray) ((([.int .i64 a0_ID, .string a0_Name, .string a0_Data, .bool a0_Sealed, .int .i64 a0_Until, .slice A_a0_Holds a0_Holds.length c_a0_Holds] : List Value))) (by kernel_rfl) hI (by kernel_rfl) ?_)
  intro b1 w hI
  refine OpsT.pures (r := []) [1] [1, 2, 3] (S' := [(1, .string a1), (2, .string a2), (3, .pointer (some ⟨b1, 0, none⟩))]) (by kernel_rfl) ?_
  refine OpsT.done ?_
  refine Qn.then ?_
  refine CodT.seq ?_
  refine CodT.regionL [0, 1] (by kernel_rfl) ?_
  obtain ⟨y3, hc2, h0⟩ := bindS h0
  try dsimp only at h0
  refine OpsT.cons (Does.call (d := some 15) (n := 9) (vs := []) (by kernel_rfl) en9 (c9 w0 w _ _ hI hT _ hc2) ?_)
  rintro e w ⟨rfl, hI⟩
  refine ⟨_, rfl, ?_⟩
  refine OpsT.pures (r := []) [1] [1, 2, 3, 7] (S' := [(1, .string a1), (2, .string a2), (3, .pointer (some ⟨b1, 0, none⟩)), (7, .bool y3)]) (by kernel_rfl) ?_
  refine OpsT.done ?_
  refine Qn.then ?_
  refine CodT.seq ?_
  refine CodT.seq ?_
  refine CodT.regionL [0, 1] (by kernel_rfl) ?_
  refine OpsT.pures (r := []) [0, 1] [1, 2, 3, 7, 17] (S' := [(1, .string a1), (2, .string a2), (3, .pointer (some ⟨b1, 0, none⟩)), (7, .bool y3), (17, .bool (!y3))]) (by kernel_rfl) ?_
  refine OpsT.done ?_
  refine Qn.then ?_
  by_cases hb4 : (!y3) = true
  · rw [if_pos hb4] at h0
    refine CodT.yes' (b := !y3) (by kernel_rfl) hb4 ?_
    refine CodT.seq ?_
    refine CodT.regionL [0] (by kernel_rfl) ?_
    refine OpsT.pures (r := []) [0] [6] (S' := [(6, .bool false)]) (by kernel_rfl) ?_
    refine OpsT.done ?_
    refine Qn.then ?_
    refine CodT.ret ?_
    refine Qn.ret_then ?_
    have hI := hI.drop
    have e := someS h0
    subst e
    refine Qn.keep [6] (S' := [(6, .bool false)]) (by kernel_rfl) ?_
    exact post_ret (v := .bool false) (fun a ha => RunRes.run (vs := [.bool false]) (.tmp (t := 6) (by kernel_rfl) .nil) ha (by kernel_rfl)) ⟨rfl, hI⟩
  · rw [if_neg hb4] at h0
    refine CodT.no' (b := !y3) (by kernel_rfl) (by simpa using hb4) ?_
    refine CodT.skip ?_
    refine Qn.then ?_
    refine CodT.seq ?_
    refine CodT.regionL [0, 1, 2] (by kernel_rfl) ?_
    refine OpsT.cons (Does.yi (Yl.load (d := 18) (T := 24) (v := .agg ((([.int .i64 a0_ID, .string a0_Name, .string a0_Data, .bool a0_Sealed, .int .i64 a0_Until, .slice A_a0_Holds a0_Holds.length c_a0_Holds] : List Value))).toArray) (by kernel_rfl) (ldBN ty24 (l := (([.int .i64 a0_ID, .string a0_Name, .string a0_Data, .bool a0_Sealed, .int .i64 a0_Until, .slice A_a0_Holds a0_Holds.length c_a0_Holds] : List Value))) (o := 0) (cs := (([.int .i64 a0_ID, .string a0_Name, .string a0_Data, .bool a0_Sealed, .int .i64 a0_Until, .slice A_a0_Holds a0_Holds.length c_a0_Holds] : List Value))) (ent_refl _) (by kernel_rfl) (whole _ _ (by kernel_rfl)))) hI ?_)
    obtain ⟨y6, hc5, h0⟩ := bindS h0
    try dsimp only at h0
    refine OpsT.cons (Does.call (d := some 19) (n := 10) (vs := [.agg ((([.int .i64 a0_ID, .string a0_Name, .string a0_Data, .bool a0_Sealed, .int .i64 a0_Until, .slice A_a0_Holds a0_Holds.length c_a0_Holds] : List Value))).toArray]) (by kernel_rfl) en10 (c10 w0 w _ _ hI hT a0_ID a0_Name a0_Data a0_Sealed a0_Until A_a0_Holds c_a0_Holds a0_Holds hr_a0_Holds _ hc5) ?_)
    rintro e w ⟨rfl, hI⟩
    refine ⟨_, rfl, ?_⟩
    refine OpsT.pures (r := []) [2] [1, 2, 3, 7, 8] (S' := [(1, .string a1), (2, .string a2), (3, .pointer (some ⟨b1, 0, none⟩)), (7, .bool y3), (8, .bool y6)]) (by kernel_rfl) ?_
    refine OpsT.done ?_
    refine Qn.then ?_
    refine CodT.seq ?_
    obtain ⟨r1, h1, h0⟩ := bindS h0
    refine CodT.meet (fun a w => ∃ (x7 : Bool), x7 = r1 ∧ Fr 86 [(1, .string a1), (2, .string a2), (3, .pointer (some ⟨b1, 0, none⟩)), (7, .bool y3), (39, .bool x7)] a ∧ Inv w0 Z w (star (pt b1 (.cells ((([.int .i64 a0_ID, .string a0_Name, .string a0_Data, .bool a0_Sealed, .int .i64 a0_Until, .slice A_a0_Holds a0_Holds.length c_a0_Holds] : List Value))).toArray 24 (0, 0))) A)) ?_ ?_
    ·
      refine CodT.regionL [0, 1, 2, 3, 4, 5, 6, 7, 8, 9, 10, 11, 12, 13, 14, 15, 16, 17, 18, 19] (by kernel_rfl) ?_
      refine OpsT.pures (r := [3, 4, 5, 6, 7, 8, 9, 10, 11, 12, 13, 14, 15, 16, 17, 18, 19]) [0, 1, 2] [1, 2, 3, 7, 22] (S' := [(1, .string a1), (2, .string a2), (3, .pointer (some ⟨b1, 0, none⟩)), (7, .bool y3), (22, .bool (!y6))]) (by kernel_rfl) ?_
      by_cases hb8 : (!y6) = true
      · rw [if_pos hb8] at h1
        refine OpsT.keep [1, 2, 3, 7, 22] (S' := [(1, .string a1), (2, .string a2), (3, .pointer (some ⟨b1, 0, none⟩)), (7, .bool y3), (22, .bool true)]) (by (try simp only [hb8]); kernel_rfl) ?_
        refine OpsT.pures (r := []) [3, 4, 5, 6, 7, 8, 9, 10, 11, 12, 13, 14, 15, 16, 17, 18, 19] [1, 2, 3, 7, 39] (S' := [(1, .string a1), (2, .string a2), (3, .pointer (some ⟨b1, 0, none⟩)), (7, .bool y3), (39, .bool true)]) (by kernel_rfl) ?_
        refine OpsT.done ?_
        have e := someS h1
        subst e
        exact Qn.thenJ fun a ha => ⟨true, rfl, ha.keep [1, 2, 3, 7, 39] (by kernel_rfl), hI⟩
      · rw [if_neg hb8] at h1
        have hb8 : (!y6) = false := by simpa using hb8
        refine OpsT.keep [1, 2, 3, 7, 22] (S' := [(1, .string a1), (2, .string a2), (3, .pointer (some ⟨b1, 0, none⟩)), (7, .bool y3), (22, .bool false)]) (by (try simp only [hb8]); kernel_rfl) ?_
        refine OpsT.pures (r := [8, 9, 10, 11, 12, 13, 14, 15, 16, 17, 18, 19]) [3, 4, 5, 6, 7] [1, 2, 3, 7, 27] (S' := [(1, .string a1), (2, .string a2), (3, .pointer (some ⟨b1, 0, none⟩)), (7, .bool y3), (27, .bool (decide ((a1.size : Int) > 700)))]) (by kernel_rfl) ?_
        by_cases hb9 : (decide ((a1.size : Int) > 700)) = true
        · rw [if_pos hb9] at h1
          refine OpsT.keep [1, 2, 3, 7, 27] (S' := [(1, .string a1), (2, .string a2), (3, .pointer (some ⟨b1, 0, none⟩)), (7, .bool y3), (27, .bool true)]) (by (try simp only [hb9]); kernel_rfl) ?_
          refine OpsT.pures (r := []) [8, 9, 10, 11, 12, 13, 14, 15, 16, 17, 18, 19] [1, 2, 3, 7, 39] (S' := [(1, .string a1), (2, .string a2), (3, .pointer (some ⟨b1, 0, none⟩)), (7, .bool y3), (39, .bool true)]) (by kernel_rfl) ?_
          refine OpsT.done ?_
          have e := someS h1
          subst e
          exact Qn.thenJ fun a ha => ⟨true, rfl, ha.keep [1, 2, 3, 7, 39] (by kernel_rfl), hI⟩
        · rw [if_neg hb9] at h1
          have hb9 : (decide ((a1.size : Int) > 700)) = false := by simpa using hb9
          refine OpsT.keep [1, 2, 3, 7, 27] (S' := [(1, .string a1), (2, .string a2), (3, .pointer (some ⟨b1, 0, none⟩)), (7, .bool y3), (27, .bool false)]) (by (try simp only [hb9]); kernel_rfl) ?_
          refine OpsT.pures (r := [13, 14, 15, 16, 17, 18, 19]) [8, 9, 10, 11, 12] [1, 2, 3, 7, 32] (S' := [(1, .string a1), (2, .string a2), (3, .pointer (some ⟨b1, 0, none⟩)), (7, .bool y3), (32, .bool (decide ((a2.size : Int) > 700)))]) (by kernel_rfl) ?_
          by_cases hb10 : (decide ((a2.size : Int) > 700)) = true
          · rw [if_pos hb10] at h1
            refine OpsT.keep [1, 2, 3, 7, 32] (S' := [(1, .string a1), (2, .string a2), (3, .pointer (some ⟨b1, 0, none⟩)), (7, .bool y3), (32, .bool true)]) (by (try simp only [hb10]); kernel_rfl) ?_
            refine OpsT.pures (r := []) [13, 14, 15, 16, 17, 18, 19] [1, 2, 3, 7, 39] (S' := [(1, .string a1), (2, .string a2), (3, .pointer (some ⟨b1, 0, none⟩)), (7, .bool y3), (39, .bool true)]) (by kernel_rfl) ?_
            refine OpsT.done ?_
            have e := someS h1
            subst e
            exact Qn.thenJ fun a ha => ⟨true, rfl, ha.keep [1, 2, 3, 7, 39] (by kernel_rfl), hI⟩
          · rw [if_neg hb10] at h1
            have hb10 : (decide ((a2.size : Int) > 700)) = false := by simpa using hb10
            refine OpsT.keep [1, 2, 3, 7, 32] (S' := [(1, .string a1), (2, .string a2), (3, .pointer (some ⟨b1, 0, none⟩)), (7, .bool y3), (32, .bool false)]) (by (try simp only [hb10]); kernel_rfl) ?_
            refine OpsT.pures (r := [17, 18, 19]) [13, 14, 15, 16] [1, 2, 3, 7, 36] (S' := [(1, .string a1), (2, .string a2), (3, .pointer (some ⟨b1, 0, none⟩)), (7, .bool y3), (36, .bool (seq a1 (⟨#[]⟩ : ByteArray)))]) (by kernel_rfl) ?_
            by_cases hb11 : (seq a1 (⟨#[]⟩ : ByteArray)) = true
            · rw [if_pos hb11] at h1
              refine OpsT.keep [1, 2, 3, 7, 36] (S' := [(1, .string a1), (2, .string a2), (3, .pointer (some ⟨b1, 0, none⟩)), (7, .bool y3), (36, .bool true)]) (by (try simp only [hb11]); kernel_rfl) ?_
              refine OpsT.pures (r := []) [17, 18, 19] [1, 2, 3, 7, 39] (S' := [(1, .string a1), (2, .string a2), (3, .pointer (some ⟨b1, 0, none⟩)), (7, .bool y3), (39, .bool true)]) (by kernel_rfl) ?_
              refine OpsT.done ?_
              have e := someS h1
              subst e
              exact Qn.thenJ fun a ha => ⟨true, rfl, ha.keep [1, 2, 3, 7, 39] (by kernel_rfl), hI⟩
            · rw [if_neg hb11] at h1
              have hb11 : (seq a1 (⟨#[]⟩ : ByteArray)) = false := by simpa using hb11
              refine OpsT.keep [1, 2, 3, 7, 36] (S' := [(1, .string a1), (2, .string a2), (3, .pointer (some ⟨b1, 0, none⟩)), (7, .bool y3), (36, .bool false)]) (by (try simp only [hb11]); kernel_rfl) ?_
              refine OpsT.pures (r := []) [17, 18, 19] [1, 2, 3, 7, 39] (S' := [(1, .string a1), (2, .string a2), (3, .pointer (some ⟨b1, 0, none⟩)), (7, .bool y3), (39, .bool (seq a2 (⟨#[]⟩ : ByteArray)))]) (by kernel_rfl) ?_
              refine OpsT.done ?_
              have e := someS h1
              subst e
              exact Qn.thenJ fun a ha => ⟨seq a2 (⟨#[]⟩ : ByteArray), rfl, ha.keep [1, 2, 3, 7, 39] (by kernel_rfl), hI⟩
    ·
      rintro a w ⟨x7, rfl, ha, hI⟩
      try dsimp only at h0
      refine CodT.of ?_ ha
      by_cases hb12 : x7 = true
      · rw [if_pos hb12] at h0
        refine CodT.yes' (b := x7) (by kernel_rfl) hb12 ?_
        refine CodT.seq ?_
        refine CodT.regionL [0, 1] (by kernel_rfl) ?_
        refine OpsT.pures (r := []) [0, 1] [6] (S' := [(6, .bool y3)]) (by kernel_rfl) ?_
        refine OpsT.done ?_
        refine Qn.then ?_
        refine CodT.ret ?_
        refine Qn.ret_then ?_
        have hI := hI.drop
        have e := someS h0
        subst e
        refine Qn.keep [6] (S' := [(6, .bool y3)]) (by kernel_rfl) ?_
        exact post_ret (v := .bool y3) (fun a ha => RunRes.run (vs := [.bool y3]) (.tmp (t := 6) (by kernel_rfl) .nil) ha (by kernel_rfl)) ⟨rfl, hI⟩
      · rw [if_neg hb12] at h0
        refine CodT.no' (b := x7) (by kernel_rfl) (by simpa using hb12) ?_
        refine CodT.skip ?_
        refine Qn.then ?_
        refine CodT.seq ?_
        refine CodT.regionL [0, 1, 2, 3, 4, 5, 6, 7, 8] (by kernel_rfl) ?_
        refine OpsT.cons (Does.yi (Yl.load (d := 42) (T := 24) (v := .agg ((([.int .i64 a0_ID, .string a0_Name, .string a0_Data, .bool a0_Sealed, .int .i64 a0_Until, .slice A_a0_Holds a0_Holds.length c_a0_Holds] : List Value))).toArray) (by kernel_rfl) (ldBN ty24 (l := (([.int .i64 a0_ID, .string a0_Name, .string a0_Data, .bool a0_Sealed, .int .i64 a0_Until, .slice A_a0_Holds a0_Holds.length c_a0_Holds] : List Value))) (o := 0) (cs := (([.int .i64 a0_ID, .string a0_Name, .string a0_Data, .bool a0_Sealed, .int .i64 a0_Until, .slice A_a0_Holds a0_Holds.length c_a0_Holds] : List Value))) (ent_refl _) (by kernel_rfl) (whole _ _ (by kernel_rfl)))) hI ?_)
        refine OpsT.pures (r := [2, 3, 4, 5, 6, 7, 8]) [1] [1, 2, 3, 7, 42, 43] (S' := [(1, .string a1), (2, .string a2), (3, .pointer (some ⟨b1, 0, none⟩)), (7, .bool y3), (42, .agg ((([.int .i64 a0_ID, .string a0_Name, .string a0_Data, .bool a0_Sealed, .int .i64 a0_Until, .slice A_a0_Holds a0_Holds.length c_a0_Holds] : List Value))).toArray), (43, .string a1)]) (by kernel_rfl) ?_
        obtain ⟨⟨y14, y15, y16, y17, y18, y19, y23⟩, hc13, h0⟩ := bindS h0
        try dsimp only at h0
        refine OpsT.cons (Does.call (d := some 44) (n := 22) (vs := [.agg ((([.int .i64 a0_ID, .string a0_Name, .string a0_Data, .bool a0_Sealed, .int .i64 a0_Until, .slice A_a0_Holds a0_Holds.length c_a0_Holds] : List Value))).toArray, .string a1]) (by kernel_rfl) en22 (c22 w0 w _ _ hI hT a0_ID a0_Name a0_Data a0_Sealed a0_Until A_a0_Holds c_a0_Holds a0_Holds hr_a0_Holds a1 _ hc13) ?_)
        rintro e w ⟨A20, cp21, Z24, hle25, rfl, hr22, hI⟩
        refine ⟨_, rfl, ?_⟩
        refine OpsT.pures (r := [6, 7, 8]) [3, 4, 5] [1, 2, 3, 7, 45, 46] (S' := [(1, .string a1), (2, .string a2), (3, .pointer (some ⟨b1, 0, none⟩)), (7, .bool y3), (45, .agg ((([.int .i64 y14, .string y15, .string y16, .bool y17, .int .i64 y18, .slice A20 y19.length cp21] : List Value))).toArray), (46, .int .i64 y23)]) (by kernel_rfl) ?_
        refine OpsT.cons (Does.allocL (d := 9) (T := 24) ((([.int .i64 0, .string (⟨#[]⟩ : ByteArray), .string (⟨#[]⟩ : ByteArray), .bool false, .int .i64 0, .slice none 0 0] : List Value))) (by kernel_rfl) ty24 hI (by kernel_rfl) ?_)
        intro b26 w hI
        refine OpsT.cons (Does.storeLit (T := 24) (b := b26) (o := 0) (v := .agg ((([.int .i64 y14, .string y15, .string y16, .bool y17, .int .i64 y18, .slice A20 y19.length cp21] : List Value))).toArray) (l := (([.int .i64 0, .string (⟨#[]⟩ : ByteArray), .string (⟨#[]⟩ : ByteArray), .bool false, .int .i64 0, .slice none 0 0] : List Value))) (vs := (([.int .i64 y14, .string y15, .string y16, .bool y17, .int .i64 y18, .slice A20 y19.length cp21] : List Value))) (L' := (([.int .i64 y14, .string y15, .string y16, .bool y17, .int .i64 y18, .slice A20 y19.length cp21] : List Value))) (by kernel_rfl) ty24 hI (by kernel_rfl) (by kernel_rfl) (by kernel_rfl) (by kernel_rfl) (by kernel_rfl) ?_)
        intro w hI
        refine OpsT.pures (r := []) [8] [1, 2, 3, 7, 9, 10] (S' := [(1, .string a1), (2, .string a2), (3, .pointer (some ⟨b1, 0, none⟩)), (7, .bool y3), (9, .pointer (some ⟨b26, 0, none⟩)), (10, .int .i64 y23)]) (by kernel_rfl) ?_
        refine OpsT.done ?_
        refine Qn.then ?_
        refine CodT.seq ?_
        refine CodT.regionL [0, 1, 2, 3, 4, 5, 6, 7, 8] (by kernel_rfl) ?_
        refine OpsT.cons (Does.yi (Yl.load (d := 48) (T := 24) (v := .agg ((([.int .i64 y14, .string y15, .string y16, .bool y17, .int .i64 y18, .slice A20 y19.length cp21] : List Value))).toArray) (by kernel_rfl) (ldBN ty24 (l := (([.int .i64 y14, .string y15, .string y16, .bool y17, .int .i64 y18, .slice A20 y19.length cp21] : List Value))) (o := 0) (cs := (([.int .i64 y14, .string y15, .string y16, .bool y17, .int .i64 y18, .slice A20 y19.length cp21] : List Value))) (ent_refl _) (by kernel_rfl) (whole _ _ (by kernel_rfl)))) hI ?_)
        refine OpsT.pures (r := [2, 3, 4, 5, 6, 7, 8]) [1] [1, 2, 3, 7, 10, 48, 49] (S' := [(1, .string a1), (2, .string a2), (3, .pointer (some ⟨b1, 0, none⟩)), (7, .bool y3), (10, .int .i64 y23), (48, .agg ((([.int .i64 y14, .string y15, .string y16, .bool y17, .int .i64 y18, .slice A20 y19.length cp21] : List Value))).toArray), (49, .string a2)]) (by kernel_rfl) ?_
        obtain ⟨⟨y28, y29, y30, y31, y32, y33, y37⟩, hc27, h0⟩ := bindS h0
        try dsimp only at h0
        refine OpsT.cons (Does.call (d := some 50) (n := 22) (vs := [.agg ((([.int .i64 y14, .string y15, .string y16, .bool y17, .int .i64 y18, .slice A20 y19.length cp21] : List Value))).toArray, .string a2]) (by kernel_rfl) en22 (c22 w0 w _ _ hI (hT.mono hle25) y14 y15 y16 y17 y18 A20 cp21 y19 hr22 a2 _ hc27) ?_)
        rintro e w ⟨A34, cp35, Z38, hle39, rfl, hr36, hI⟩
        refine ⟨_, rfl, ?_⟩
        refine OpsT.pures (r := [6, 7, 8]) [3, 4, 5] [1, 2, 3, 7, 10, 51, 52] (S' := [(1, .string a1), (2, .string a2), (3, .pointer (some ⟨b1, 0, none⟩)), (7, .bool y3), (10, .int .i64 y23), (51, .agg ((([.int .i64 y28, .string y29, .string y30, .bool y31, .int .i64 y32, .slice A34 y33.length cp35] : List Value))).toArray), (52, .int .i64 y37)]) (by kernel_rfl) ?_
        refine OpsT.cons (Does.allocL (d := 11) (T := 24) ((([.int .i64 0, .string (⟨#[]⟩ : ByteArray), .string (⟨#[]⟩ : ByteArray), .bool false, .int .i64 0, .slice none 0 0] : List Value))) (by kernel_rfl) ty24 hI (by kernel_rfl) ?_)
        intro b40 w hI
        refine OpsT.cons (Does.storeLit (T := 24) (b := b40) (o := 0) (v := .agg ((([.int .i64 y28, .string y29, .string y30, .bool y31, .int .i64 y32, .slice A34 y33.length cp35] : List Value))).toArray) (l := (([.int .i64 0, .string (⟨#[]⟩ : ByteArray), .string (⟨#[]⟩ : ByteArray), .bool false, .int .i64 0, .slice none 0 0] : List Value))) (vs := (([.int .i64 y28, .string y29, .string y30, .bool y31, .int .i64 y32, .slice A34 y33.length cp35] : List Value))) (L' := (([.int .i64 y28, .string y29, .string y30, .bool y31, .int .i64 y32, .slice A34 y33.length cp35] : List Value))) (by kernel_rfl) ty24 hI (by kernel_rfl) (by kernel_rfl) (by kernel_rfl) (by kernel_rfl) (by kernel_rfl) ?_)
        intro w hI
        refine OpsT.pures (r := []) [8] [1, 2, 3, 7, 10, 11, 12] (S' := [(1, .string a1), (2, .string a2), (3, .pointer (some ⟨b1, 0, none⟩)), (7, .bool y3), (10, .int .i64 y23), (11, .pointer (some ⟨b40, 0, none⟩)), (12, .int .i64 y37)]) (by kernel_rfl) ?_
        refine OpsT.done ?_
        refine Qn.then ?_
        refine CodT.seq ?_
        refine CodT.regionL [0, 1, 2, 3, 4, 5, 6, 7, 8, 9, 10] (by kernel_rfl) ?_
        refine OpsT.cons (Does.yi (Yl.load (d := 54) (T := 24) (v := .agg ((([.int .i64 a0_ID, .string a0_Name, .string a0_Data, .bool a0_Sealed, .int .i64 a0_Until, .slice A_a0_Holds a0_Holds.length c_a0_Holds] : List Value))).toArray) (by kernel_rfl) (ldBN ty24 (l := (([.int .i64 a0_ID, .string a0_Name, .string a0_Data, .bool a0_Sealed, .int .i64 a0_Until, .slice A_a0_Holds a0_Holds.length c_a0_Holds] : List Value))) (o := 0) (cs := (([.int .i64 a0_ID, .string a0_Name, .string a0_Data, .bool a0_Sealed, .int .i64 a0_Until, .slice A_a0_Holds a0_Holds.length c_a0_Holds] : List Value))) (pick3 _ _ _ _) (by kernel_rfl) (whole _ _ (by kernel_rfl)))) hI ?_)
        refine OpsT.pures (r := [3, 4, 5, 6, 7, 8, 9, 10]) [1, 2] [7, 10, 11, 12, 54, 55, 56] (S' := [(7, .bool y3), (10, .int .i64 y23), (11, .pointer (some ⟨b40, 0, none⟩)), (12, .int .i64 y37), (54, .agg ((([.int .i64 a0_ID, .string a0_Name, .string a0_Data, .bool a0_Sealed, .int .i64 a0_Until, .slice A_a0_Holds a0_Holds.length c_a0_Holds] : List Value))).toArray), (55, .string a1), (56, .string a2)]) (by kernel_rfl) ?_
        obtain ⟨hg41, h0⟩ := guardS h0
        refine OpsT.cons (Does.yi (Yl.cat (d := 57) (T := 9) (x := a1) (y := a2) (by kernel_rfl) hg41) hI ?_)
        obtain ⟨⟨y43, y44, y45, y46, y47, y48, y52⟩, hc42, h0⟩ := bindS h0
        try dsimp only at h0
        refine OpsT.cons (Does.call (d := some 58) (n := 22) (vs := [.agg ((([.int .i64 a0_ID, .string a0_Name, .string a0_Data, .bool a0_Sealed, .int .i64 a0_Until, .slice A_a0_Holds a0_Holds.length c_a0_Holds] : List Value))).toArray, .string (a1 ++ a2)]) (by kernel_rfl) en22 (c22 w0 w _ _ hI (hT.mono (Hp.le_trans hle25 hle39)) a0_ID a0_Name a0_Data a0_Sealed a0_Until A_a0_Holds c_a0_Holds a0_Holds (hr_a0_Holds.mono (Hp.le_trans hle25 hle39)) (a1 ++ a2) _ hc42) ?_)
        rintro e w ⟨A49, cp50, Z53, hle54, rfl, hr51, hI⟩
        refine ⟨_, rfl, ?_⟩
        refine OpsT.pures (r := [8, 9, 10]) [5, 6, 7] [7, 10, 11, 12, 59, 60] (S' := [(7, .bool y3), (10, .int .i64 y23), (11, .pointer (some ⟨b40, 0, none⟩)), (12, .int .i64 y37), (59, .agg ((([.int .i64 y43, .string y44, .string y45, .bool y46, .int .i64 y47, .slice A49 y48.length cp50] : List Value))).toArray), (60, .int .i64 y52)]) (by kernel_rfl) ?_
        refine OpsT.cons (Does.allocL (d := 13) (T := 24) ((([.int .i64 0, .string (⟨#[]⟩ : ByteArray), .string (⟨#[]⟩ : ByteArray), .bool false, .int .i64 0, .slice none 0 0] : List Value))) (by kernel_rfl) ty24 hI (by kernel_rfl) ?_)
        intro b55 w hI
        refine OpsT.cons (Does.storeLit (T := 24) (b := b55) (o := 0) (v := .agg ((([.int .i64 y43, .string y44, .string y45, .bool y46, .int .i64 y47, .slice A49 y48.length cp50] : List Value))).toArray) (l := (([.int .i64 0, .string (⟨#[]⟩ : ByteArray), .string (⟨#[]⟩ : ByteArray), .bool false, .int .i64 0, .slice none 0 0] : List Value))) (vs := (([.int .i64 y43, .string y44, .string y45, .bool y46, .int .i64 y47, .slice A49 y48.length cp50] : List Value))) (L' := (([.int .i64 y43, .string y44, .string y45, .bool y46, .int .i64 y47, .slice A49 y48.length cp50] : List Value))) (by kernel_rfl) ty24 hI (by kernel_rfl) (by kernel_rfl) (by kernel_rfl) (by kernel_rfl) (by kernel_rfl) ?_)
        intro w hI
        refine OpsT.pures (r := []) [10] [7, 10, 11, 12, 13, 14] (S' := [(7, .bool y3), (10, .int .i64 y23), (11, .pointer (some ⟨b40, 0, none⟩)), (12, .int .i64 y37), (13, .pointer (some ⟨b55, 0, none⟩)), (14, .int .i64 y52)]) (by kernel_rfl) ?_
        refine OpsT.done ?_
        refine Qn.then ?_
        refine CodT.seq ?_
        refine CodT.seq ?_
        refine CodT.regionL [0, 1] (by kernel_rfl) ?_
        refine OpsT.pures (r := []) [0, 1] [7, 10, 11, 12, 13, 62] (S' := [(7, .bool y3), (10, .int .i64 y23), (11, .pointer (some ⟨b40, 0, none⟩)), (12, .int .i64 y37), (13, .pointer (some ⟨b55, 0, none⟩)), (62, .bool (y52 != 0))]) (by kernel_rfl) ?_
        refine OpsT.done ?_
        refine Qn.then ?_
        by_cases hb56 : (y52 != 0) = true
        · rw [if_pos hb56] at h0
          refine CodT.yes' (b := y52 != 0) (by kernel_rfl) hb56 ?_
          obtain ⟨r1, h1, h0⟩ := bindS h0
          refine CodT.meet (fun a w => ∃ (x57 : Bool), x57 = r1 ∧ Fr 86 [(6, .bool x57)] a ∧ Inv w0 Z53 w A) ?_ ?_
          ·
            refine CodT.regionL [0, 1, 2, 3, 4, 5, 6, 7, 8, 9] (by kernel_rfl) ?_
            refine OpsT.pures (r := [2, 3, 4, 5, 6, 7, 8, 9]) [0, 1] [10, 12, 64] (S' := [(10, .int .i64 y23), (12, .int .i64 y37), (64, .bool y3)]) (by kernel_rfl) ?_
            by_cases hb58 : y3 = true
            · rw [if_pos hb58] at h1
              refine OpsT.keep [10, 12, 64] (S' := [(10, .int .i64 y23), (12, .int .i64 y37), (64, .bool true)]) (by (try simp only [hb58]); kernel_rfl) ?_
              refine OpsT.pures (r := [5, 6, 7, 8, 9]) [2, 3, 4] [12, 64, 67] (S' := [(12, .int .i64 y37), (64, .bool true), (67, .bool (y23 != 0))]) (by kernel_rfl) ?_
              by_cases hb59 : (y23 != 0) = true
              · rw [if_pos hb59] at h1
                refine OpsT.keep [12, 64, 67] (S' := [(12, .int .i64 y37), (64, .bool true), (67, .bool true)]) (by (try simp only [hb59]); kernel_rfl) ?_
                refine OpsT.pures (r := []) [5, 6, 7, 8, 9] [6] (S' := [(6, .bool true)]) (by kernel_rfl) ?_
                refine OpsT.done ?_
                have hI := hI.drop
                have hI := hI.drop
                have hI := hI.drop
                have hI := hI.drop
                have e := someS h1
                subst e
                exact Qn.thenJ fun a ha => ⟨true, rfl, ha.keep [6] (by kernel_rfl), hI⟩
              · rw [if_neg hb59] at h1
                have hb59 : (y23 != 0) = false := by simpa using hb59
                refine OpsT.keep [12, 64, 67] (S' := [(12, .int .i64 y37), (64, .bool true), (67, .bool false)]) (by (try simp only [hb59]); kernel_rfl) ?_
                refine OpsT.pures (r := []) [5, 6, 7, 8, 9] [6] (S' := [(6, .bool (y37 != 0))]) (by kernel_rfl) ?_
                refine OpsT.done ?_
                have hI := hI.drop
                have hI := hI.drop
                have hI := hI.drop
                have hI := hI.drop
                have e := someS h1
                subst e
                exact Qn.thenJ fun a ha => ⟨y37 != 0, rfl, ha.keep [6] (by kernel_rfl), hI⟩
            · rw [if_neg hb58] at h1
              have hb58 : y3 = false := by simpa using hb58
              refine OpsT.keep [10, 12, 64] (S' := [(10, .int .i64 y23), (12, .int .i64 y37), (64, .bool false)]) (by (try simp only [hb58]); kernel_rfl) ?_
              refine OpsT.pures (r := []) [2, 3, 4, 5, 6, 7, 8, 9] [6] (S' := [(6, .bool false)]) (by kernel_rfl) ?_
              refine OpsT.done ?_
              have hI := hI.drop
              have hI := hI.drop
              have hI := hI.drop
              have hI := hI.drop
              have e := someS h1
              subst e
              exact Qn.thenJ fun a ha => ⟨false, rfl, ha.keep [6] (by kernel_rfl), hI⟩
          ·
            rintro a w ⟨x57, rfl, ha, hI⟩
            try dsimp only at h0
            refine CodT.of ?_ ha
            refine CodT.ret ?_
            refine Qn.ret_then ?_
            have e := someS h0
            subst e
            refine Qn.keep [6] (S' := [(6, .bool x57)]) (by kernel_rfl) ?_
            exact post_ret (v := .bool x57) (fun a ha => RunRes.run (vs := [.bool x57]) (.tmp (t := 6) (by kernel_rfl) .nil) ha (by kernel_rfl)) ⟨rfl, hI.weaken (Hp.le_trans (Hp.le_trans hle25 hle39) hle54)⟩
        · rw [if_neg hb56] at h0
          refine CodT.no' (b := y52 != 0) (by kernel_rfl) (by simpa using hb56) ?_
          refine CodT.skip ?_
          refine Qn.then ?_
          obtain ⟨r1, h1, h0⟩ := bindS h0
          refine CodT.meet (fun a w => ∃ (x60 : Bool), x60 = r1 ∧ Fr 86 [(6, .bool x60)] a ∧ Inv w0 Z53 w A) ?_ ?_
          ·
            refine CodT.regionL [0, 1, 2, 3, 4, 5, 6, 7, 8, 9, 10, 11, 12, 13, 14] (by kernel_rfl) ?_
            refine OpsT.pures (r := [2, 3, 4, 5, 6, 7, 8, 9, 10, 11, 12, 13, 14]) [0, 1] [10, 11, 12, 13, 73] (S' := [(10, .int .i64 y23), (11, .pointer (some ⟨b40, 0, none⟩)), (12, .int .i64 y37), (13, .pointer (some ⟨b55, 0, none⟩)), (73, .bool y3)]) (by kernel_rfl) ?_
            by_cases hb61 : y3 = true
            · rw [if_pos hb61] at h1
              refine OpsT.keep [10, 11, 12, 13, 73] (S' := [(10, .int .i64 y23), (11, .pointer (some ⟨b40, 0, none⟩)), (12, .int .i64 y37), (13, .pointer (some ⟨b55, 0, none⟩)), (73, .bool true)]) (by (try simp only [hb61]); kernel_rfl) ?_
              refine OpsT.pures (r := [6, 7, 8, 9, 10, 11, 12, 13, 14]) [2, 3, 4, 5] [11, 12, 13, 77] (S' := [(11, .pointer (some ⟨b40, 0, none⟩)), (12, .int .i64 y37), (13, .pointer (some ⟨b55, 0, none⟩)), (77, .bool (y23 == 0))]) (by kernel_rfl) ?_
              by_cases hb62 : (y23 == 0) = true
              · rw [if_pos hb62] at h1
                refine OpsT.keep [11, 12, 13, 77] (S' := [(11, .pointer (some ⟨b40, 0, none⟩)), (12, .int .i64 y37), (13, .pointer (some ⟨b55, 0, none⟩)), (77, .bool true)]) (by (try simp only [hb62]); kernel_rfl) ?_
                refine OpsT.pures (r := [10, 11, 12, 13, 14]) [6, 7, 8, 9] [11, 13, 81] (S' := [(11, .pointer (some ⟨b40, 0, none⟩)), (13, .pointer (some ⟨b55, 0, none⟩)), (81, .bool (y37 == 0))]) (by kernel_rfl) ?_
                by_cases hb63 : (y37 == 0) = true
                · rw [if_pos hb63] at h1
                  refine OpsT.keep [11, 13, 81] (S' := [(11, .pointer (some ⟨b40, 0, none⟩)), (13, .pointer (some ⟨b55, 0, none⟩)), (81, .bool true)]) (by (try simp only [hb63]); kernel_rfl) ?_
                  refine OpsT.cons (Does.yi (Yl.load (d := 82) (T := 24) (v := .agg ((([.int .i64 y28, .string y29, .string y30, .bool y31, .int .i64 y32, .slice A34 y33.length cp35] : List Value))).toArray) (by kernel_rfl) (ldBN ty24 (l := (([.int .i64 y28, .string y29, .string y30, .bool y31, .int .i64 y32, .slice A34 y33.length cp35] : List Value))) (o := 0) (cs := (([.int .i64 y28, .string y29, .string y30, .bool y31, .int .i64 y32, .slice A34 y33.length cp35] : List Value))) (pick2 _ _ _) (by kernel_rfl) (whole _ _ (by kernel_rfl)))) hI ?_)
                  refine OpsT.cons (Does.yi (Yl.load (d := 83) (T := 24) (v := .agg ((([.int .i64 y43, .string y44, .string y45, .bool y46, .int .i64 y47, .slice A49 y48.length cp50] : List Value))).toArray) (by kernel_rfl) (ldBN ty24 (l := (([.int .i64 y43, .string y44, .string y45, .bool y46, .int .i64 y47, .slice A49 y48.length cp50] : List Value))) (o := 0) (cs := (([.int .i64 y43, .string y44, .string y45, .bool y46, .int .i64 y47, .slice A49 y48.length cp50] : List Value))) (ent_refl _) (by kernel_rfl) (whole _ _ (by kernel_rfl)))) hI ?_)
                  obtain ⟨y65, hc64, h1⟩ := bindS h1
                  try dsimp only at h1
                  refine OpsT.cons (Does.call (d := some 84) (n := 18) (vs := [.agg ((([.int .i64 y28, .string y29, .string y30, .bool y31, .int .i64 y32, .slice A34 y33.length cp35] : List Value))).toArray, .agg ((([.int .i64 y43, .string y44, .string y45, .bool y46, .int .i64 y47, .slice A49 y48.length cp50] : List Value))).toArray]) (by kernel_rfl) en18 (c18 w0 w _ _ hI (hT.mono (Hp.le_trans (Hp.le_trans hle25 hle39) hle54)) y28 y29 y30 y31 y32 A34 cp35 y33 (hr36.mono hle54) y43 y44 y45 y46 y47 A49 cp50 y48 hr51 _ hc64) ?_)
                  rintro e w ⟨rfl, hI⟩
                  refine ⟨_, rfl, ?_⟩
                  refine OpsT.pures (r := []) [13, 14] [6] (S' := [(6, .bool y65)]) (by kernel_rfl) ?_
                  refine OpsT.done ?_
                  have hI := hI.drop
                  have hI := hI.drop
                  have hI := hI.drop
                  have hI := hI.drop
                  have e := someS h1
                  subst e
                  exact Qn.thenJ fun a ha => ⟨y65, rfl, ha.keep [6] (by kernel_rfl), hI⟩
                · rw [if_neg hb63] at h1
                  have hb63 : (y37 == 0) = false := by simpa using hb63
                  refine OpsT.keep [11, 13, 81] (S' := [(11, .pointer (some ⟨b40, 0, none⟩)), (13, .pointer (some ⟨b55, 0, none⟩)), (81, .bool false)]) (by (try simp only [hb63]); kernel_rfl) ?_
                  refine OpsT.pures (r := []) [10, 11, 12, 13, 14] [6] (S' := [(6, .bool false)]) (by kernel_rfl) ?_
                  refine OpsT.done ?_
                  have hI := hI.drop
                  have hI := hI.drop
                  have hI := hI.drop
                  have hI := hI.drop
                  have e := someS h1
                  subst e
                  exact Qn.thenJ fun a ha => ⟨false, rfl, ha.keep [6] (by kernel_rfl), hI⟩
              · rw [if_neg hb62] at h1
                have hb62 : (y23 == 0) = false := by simpa using hb62
                refine OpsT.keep [11, 12, 13, 77] (S' := [(11, .pointer (some ⟨b40, 0, none⟩)), (12, .int .i64 y37), (13, .pointer (some ⟨b55, 0, none⟩)), (77, .bool false)]) (by (try simp only [hb62]); kernel_rfl) ?_
                refine OpsT.pures (r := []) [6, 7, 8, 9, 10, 11, 12, 13, 14] [6] (S' := [(6, .bool false)]) (by kernel_rfl) ?_
                refine OpsT.done ?_
                have hI := hI.drop
                have hI := hI.drop
                have hI := hI.drop
                have hI := hI.drop
                have e := someS h1
                subst e
                exact Qn.thenJ fun a ha => ⟨false, rfl, ha.keep [6] (by kernel_rfl), hI⟩
            · rw [if_neg hb61] at h1
              have hb61 : y3 = false := by simpa using hb61
              refine OpsT.keep [10, 11, 12, 13, 73] (S' := [(10, .int .i64 y23), (11, .pointer (some ⟨b40, 0, none⟩)), (12, .int .i64 y37), (13, .pointer (some ⟨b55, 0, none⟩)), (73, .bool false)]) (by (try simp only [hb61]); kernel_rfl) ?_
              refine OpsT.pures (r := []) [2, 3, 4, 5, 6, 7, 8, 9, 10, 11, 12, 13, 14] [6] (S' := [(6, .bool false)]) (by kernel_rfl) ?_
              refine OpsT.done ?_
              have hI := hI.drop
              have hI := hI.drop
              have hI := hI.drop
              have hI := hI.drop
              have e := someS h1
              subst e
              exact Qn.thenJ fun a ha => ⟨false, rfl, ha.keep [6] (by kernel_rfl), hI⟩
          ·
            rintro a w ⟨x60, rfl, ha, hI⟩
            try dsimp only at h0
            refine CodT.of ?_ ha
            refine CodT.ret ?_
            have e := someS h0
            subst e
            refine Qn.keep [6] (S' := [(6, .bool x60)]) (by kernel_rfl) ?_
            exact post_ret (v := .bool x60) (fun a ha => RunRes.run (vs := [.bool x60]) (.tmp (t := 6) (by kernel_rfl) .nil) ha (by kernel_rfl)) ⟨rfl, hI.weaken (Hp.le_trans (Hp.le_trans hle25 hle39) hle54)⟩
end Go.Cen
