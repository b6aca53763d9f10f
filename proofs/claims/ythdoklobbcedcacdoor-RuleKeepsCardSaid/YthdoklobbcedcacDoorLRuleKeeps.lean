/- The walk of the law RuleKeeps, printed by a program of ours. -/
import Derived.Test.YthdoklobbcedcacDoorPx
import Derived.Test.YthdoklobbcedcacDoorWx1
set_option linter.unusedVariables false
set_option linter.unusedSimpArgs false
namespace Go.Cen
set_option maxRecDepth 100000 in
set_option maxHeartbeats 4000000 in
/-- cenotaph/cenotaphlaw07.RuleKeeps -/
theorem c5 (w0 w : World) (Z : Hp) (A : HP) (hI : Inv w0 Z w A) (hT : Tabs Z) (a0_ID : Int) (a0_Name : ByteArray) (a0_Data : ByteArray) (a0_Sealed : Bool) (a0_Until : Int) (A_a0_Holds : Option Addr) (c_a0_Holds : Nat) (a0_Holds : (List ByteArray)) (hr_a0_Holds : RdS Z cS 1 A_a0_Holds c_a0_Holds a0_Holds) (a1 : Int) (a2 : Int) (a3 : ByteArray) (r : Bool) (h0 : law07_RuleKeeps a0_ID a0_Name a0_Data a0_Sealed a0_Until a0_Holds a1 a2 a3 = some r) :
    Calls prog 5 #[.agg ((([.int .i64 a0_ID, .string a0_Name, .string a0_Data, .bool a0_Sealed, .int .i64 a0_Until, .slice A_a0_Holds a0_Holds.length c_a0_Holds] : List Value))).toArray, .int .i64 a1, .int .i64 a2, .string a3] w (fun e w' => e = .returned (.bool r) ∧ Inv w0 Z w' A) := by
  have e4 := calls_intro (R := (fun e w' => e = .returned (.bool r) ∧ Inv w0 Z w' A)) (w := w) (args := [.agg ((([.int .i64 a0_ID, .string a0_Name, .string a0_Data, .bool a0_Sealed, .int .i64 a0_Until, .slice A_a0_Holds a0_Holds.length c_a0_Holds] : List Value))).toArray, .int .i64 a1, .int .i64 a2, .string a3]) (fn := Go.Proofs.Tryd.f5) 150 Go.Proofs.Tryd.func5 (by rfl) Go.Proofs.Tryd.ntmps5 (by kernel_rfl)
  refine e4 ?_
  clear e4
  unfold law07_RuleKeeps at h0
  refine CodT.seq ?_
  refine CodT.regionL [0, 1] (by kernel_rfl) ?_
  refine OpsT.cons (Does.boxL (d := 4) (T := 27) (v := .agg ((([.int .i64 a0_ID, .string a0_Name, .string a0_Data, .bool a0_Sealed, .int .i64 a0_Until, .slice A_a0_Holds a0_Holds.length c_a0_Holds] : List Value))).toArray) ((([.int .i64 a0_ID, .string a0_Name, .string a0_Data, .bool a0_Sealed, .int .i64 a0_Until, .slice A_a0_Holds a0_Holds.length c_a0_Holds] : List Value))) (by kernel_rfl) hI (by kernel_rfl) ?_)
  intro b1 w hI
  refine OpsT.pures (r := []) [1] [1, 2, 3, 4] (S' := [(1, .int .i64 a1), (2, .int .i64 a2), (3, .string a3), (4, .pointer (some ⟨b1, 0, none⟩))]) (by kernel_rfl) ?_
  refine OpsT.done ?_
  refine Qn.then ?_
  refine CodT.seq ?_
  refine CodT.regionL [0, 1] (by kernel_rfl) ?_
  obtain ⟨y3, hc2, h0⟩ := bindS h0
  try dsimp only at h0
  refine OpsT.cons (Does.call (d := some 19) (n := 10) (vs := []) (by kernel_rfl) en10 (c10 w0 w _ _ hI hT _ hc2) ?_)
  rintro e w ⟨rfl, hI⟩
  refine ⟨_, rfl, ?_⟩
  refine OpsT.pures (r := []) [1] [1, 2, 3, 4, 9] (S' := [(1, .int .i64 a1), (2, .int .i64 a2), (3, .string a3), (4, .pointer (some ⟨b1, 0, none⟩)), (9, .bool y3)]) (by kernel_rfl) ?_
  refine OpsT.done ?_
  refine Qn.then ?_
  refine CodT.seq ?_
  refine CodT.seq ?_
  refine CodT.regionL [0, 1] (by kernel_rfl) ?_
  refine OpsT.pures (r := []) [0, 1] [1, 2, 3, 4, 9, 21] (S' := [(1, .int .i64 a1), (2, .int .i64 a2), (3, .string a3), (4, .pointer (some ⟨b1, 0, none⟩)), (9, .bool y3), (21, .bool (!y3))]) (by kernel_rfl) ?_
  refine OpsT.done ?_
  refine Qn.then ?_
  by_cases hb4 : (!y3) = true
  · rw [if_pos hb4] at h0
    refine CodT.yes' (b := !y3) (by kernel_rfl) hb4 ?_
    refine CodT.seq ?_
    refine CodT.regionL [0] (by kernel_rfl) ?_
    refine OpsT.pures (r := []) [0] [8] (S' := [(8, .bool false)]) (by kernel_rfl) ?_
    refine OpsT.done ?_
    refine Qn.then ?_
    refine CodT.ret ?_
    refine Qn.ret_then ?_
    have hI := hI.drop
    have e := someS h0
    subst e
    refine Qn.keep [8] (S' := [(8, .bool false)]) (by kernel_rfl) ?_
    exact post_ret (v := .bool false) (fun a ha => RunRes.run (vs := [.bool false]) (.tmp (t := 8) (by kernel_rfl) .nil) ha (by kernel_rfl)) ⟨rfl, hI⟩
  · rw [if_neg hb4] at h0
    refine CodT.no' (b := !y3) (by kernel_rfl) (by simpa using hb4) ?_
    refine CodT.skip ?_
    refine Qn.then ?_
    refine CodT.seq ?_
    refine CodT.regionL [0, 1, 2] (by kernel_rfl) ?_
    refine OpsT.cons (Does.yi (Yl.load (d := 22) (T := 27) (v := .agg ((([.int .i64 a0_ID, .string a0_Name, .string a0_Data, .bool a0_Sealed, .int .i64 a0_Until, .slice A_a0_Holds a0_Holds.length c_a0_Holds] : List Value))).toArray) (by kernel_rfl) (ldBN ty27 (l := (([.int .i64 a0_ID, .string a0_Name, .string a0_Data, .bool a0_Sealed, .int .i64 a0_Until, .slice A_a0_Holds a0_Holds.length c_a0_Holds] : List Value))) (o := 0) (cs := (([.int .i64 a0_ID, .string a0_Name, .string a0_Data, .bool a0_Sealed, .int .i64 a0_Until, .slice A_a0_Holds a0_Holds.length c_a0_Holds] : List Value))) (ent_refl _) (by kernel_rfl) (whole _ _ (by kernel_rfl)))) hI ?_)
    obtain ⟨y6, hc5, h0⟩ := bindS h0
    try dsimp only at h0
    refine OpsT.cons (Does.call (d := some 23) (n := 11) (vs := [.agg ((([.int .i64 a0_ID, .string a0_Name, .string a0_Data, .bool a0_Sealed, .int .i64 a0_Until, .slice A_a0_Holds a0_Holds.length c_a0_Holds] : List Value))).toArray]) (by kernel_rfl) en11 (c11 w0 w _ _ hI hT a0_ID a0_Name a0_Data a0_Sealed a0_Until A_a0_Holds c_a0_Holds a0_Holds hr_a0_Holds _ hc5) ?_)
    rintro e w ⟨rfl, hI⟩
    refine ⟨_, rfl, ?_⟩
    refine OpsT.pures (r := []) [2] [1, 2, 3, 4, 9, 10] (S' := [(1, .int .i64 a1), (2, .int .i64 a2), (3, .string a3), (4, .pointer (some ⟨b1, 0, none⟩)), (9, .bool y3), (10, .bool y6)]) (by kernel_rfl) ?_
    refine OpsT.done ?_
    refine Qn.then ?_
    refine CodT.seq ?_
    obtain ⟨r1, h1, h0⟩ := bindS h0
    refine CodT.meet (fun a w => ∃ (x7 : Bool), x7 = r1 ∧ Fr 150 [(1, .int .i64 a1), (2, .int .i64 a2), (3, .string a3), (4, .pointer (some ⟨b1, 0, none⟩)), (9, .bool y3), (36, .bool x7)] a ∧ Inv w0 Z w (star (pt b1 (.cells ((([.int .i64 a0_ID, .string a0_Name, .string a0_Data, .bool a0_Sealed, .int .i64 a0_Until, .slice A_a0_Holds a0_Holds.length c_a0_Holds] : List Value))).toArray 27 (0, 0))) A)) ?_ ?_
    ·
      refine CodT.regionL [0, 1, 2, 3, 4, 5, 6, 7, 8, 9, 10, 11, 12] (by kernel_rfl) ?_
      refine OpsT.pures (r := [3, 4, 5, 6, 7, 8, 9, 10, 11, 12]) [0, 1, 2] [1, 2, 3, 4, 9, 26] (S' := [(1, .int .i64 a1), (2, .int .i64 a2), (3, .string a3), (4, .pointer (some ⟨b1, 0, none⟩)), (9, .bool y3), (26, .bool (!y6))]) (by kernel_rfl) ?_
      by_cases hb8 : (!y6) = true
      · rw [if_pos hb8] at h1
        refine OpsT.keep [1, 2, 3, 4, 9, 26] (S' := [(1, .int .i64 a1), (2, .int .i64 a2), (3, .string a3), (4, .pointer (some ⟨b1, 0, none⟩)), (9, .bool y3), (26, .bool true)]) (by (try simp only [hb8]); kernel_rfl) ?_
        refine OpsT.pures (r := []) [3, 4, 5, 6, 7, 8, 9, 10, 11, 12] [1, 2, 3, 4, 9, 36] (S' := [(1, .int .i64 a1), (2, .int .i64 a2), (3, .string a3), (4, .pointer (some ⟨b1, 0, none⟩)), (9, .bool y3), (36, .bool true)]) (by kernel_rfl) ?_
        refine OpsT.done ?_
        have e := someS h1
        subst e
        exact Qn.thenJ fun a ha => ⟨true, rfl, ha.keep [1, 2, 3, 4, 9, 36] (by kernel_rfl), hI⟩
      · rw [if_neg hb8] at h1
        have hb8 : (!y6) = false := by simpa using hb8
        refine OpsT.keep [1, 2, 3, 4, 9, 26] (S' := [(1, .int .i64 a1), (2, .int .i64 a2), (3, .string a3), (4, .pointer (some ⟨b1, 0, none⟩)), (9, .bool y3), (26, .bool false)]) (by (try simp only [hb8]); kernel_rfl) ?_
        refine OpsT.pures (r := [8, 9, 10, 11, 12]) [3, 4, 5, 6, 7] [1, 2, 3, 4, 9, 31] (S' := [(1, .int .i64 a1), (2, .int .i64 a2), (3, .string a3), (4, .pointer (some ⟨b1, 0, none⟩)), (9, .bool y3), (31, .bool (decide ((a3.size : Int) > 200)))]) (by kernel_rfl) ?_
        by_cases hb9 : (decide ((a3.size : Int) > 200)) = true
        · rw [if_pos hb9] at h1
          refine OpsT.keep [1, 2, 3, 4, 9, 31] (S' := [(1, .int .i64 a1), (2, .int .i64 a2), (3, .string a3), (4, .pointer (some ⟨b1, 0, none⟩)), (9, .bool y3), (31, .bool true)]) (by (try simp only [hb9]); kernel_rfl) ?_
          refine OpsT.pures (r := []) [8, 9, 10, 11, 12] [1, 2, 3, 4, 9, 36] (S' := [(1, .int .i64 a1), (2, .int .i64 a2), (3, .string a3), (4, .pointer (some ⟨b1, 0, none⟩)), (9, .bool y3), (36, .bool true)]) (by kernel_rfl) ?_
          refine OpsT.done ?_
          have e := someS h1
          subst e
          exact Qn.thenJ fun a ha => ⟨true, rfl, ha.keep [1, 2, 3, 4, 9, 36] (by kernel_rfl), hI⟩
        · rw [if_neg hb9] at h1
          have hb9 : (decide ((a3.size : Int) > 200)) = false := by simpa using hb9
          refine OpsT.keep [1, 2, 3, 4, 9, 31] (S' := [(1, .int .i64 a1), (2, .int .i64 a2), (3, .string a3), (4, .pointer (some ⟨b1, 0, none⟩)), (9, .bool y3), (31, .bool false)]) (by (try simp only [hb9]); kernel_rfl) ?_
          refine OpsT.cons (Does.yi (Yl.load (d := 32) (T := 27) (v := .agg ((([.int .i64 a0_ID, .string a0_Name, .string a0_Data, .bool a0_Sealed, .int .i64 a0_Until, .slice A_a0_Holds a0_Holds.length c_a0_Holds] : List Value))).toArray) (by kernel_rfl) (ldBN ty27 (l := (([.int .i64 a0_ID, .string a0_Name, .string a0_Data, .bool a0_Sealed, .int .i64 a0_Until, .slice A_a0_Holds a0_Holds.length c_a0_Holds] : List Value))) (o := 0) (cs := (([.int .i64 a0_ID, .string a0_Name, .string a0_Data, .bool a0_Sealed, .int .i64 a0_Until, .slice A_a0_Holds a0_Holds.length c_a0_Holds] : List Value))) (ent_refl _) (by kernel_rfl) (whole _ _ (by kernel_rfl)))) hI ?_)
          refine OpsT.pures (r := [10, 11, 12]) [9] [1, 2, 3, 4, 9, 31, 32, 33] (S' := [(1, .int .i64 a1), (2, .int .i64 a2), (3, .string a3), (4, .pointer (some ⟨b1, 0, none⟩)), (9, .bool y3), (31, .bool false), (32, .agg ((([.int .i64 a0_ID, .string a0_Name, .string a0_Data, .bool a0_Sealed, .int .i64 a0_Until, .slice A_a0_Holds a0_Holds.length c_a0_Holds] : List Value))).toArray), (33, .int .i64 a1)]) (by kernel_rfl) ?_
          obtain ⟨y11, hc10, h1⟩ := bindS h1
          try dsimp only at h1
          refine OpsT.cons (Does.call (d := some 34) (n := 14) (vs := [.agg ((([.int .i64 a0_ID, .string a0_Name, .string a0_Data, .bool a0_Sealed, .int .i64 a0_Until, .slice A_a0_Holds a0_Holds.length c_a0_Holds] : List Value))).toArray, .int .i64 a1]) (by kernel_rfl) en14 (c14 w0 w _ _ hI hT a0_ID a0_Name a0_Data a0_Sealed a0_Until A_a0_Holds c_a0_Holds a0_Holds hr_a0_Holds a1 _ hc10) ?_)
          rintro e w ⟨rfl, hI⟩
          refine ⟨_, rfl, ?_⟩
          refine OpsT.pures (r := []) [11, 12] [1, 2, 3, 4, 9, 36] (S' := [(1, .int .i64 a1), (2, .int .i64 a2), (3, .string a3), (4, .pointer (some ⟨b1, 0, none⟩)), (9, .bool y3), (36, .bool (!y11))]) (by kernel_rfl) ?_
          refine OpsT.done ?_
          have e := someS h1
          subst e
          exact Qn.thenJ fun a ha => ⟨!y11, rfl, ha.keep [1, 2, 3, 4, 9, 36] (by kernel_rfl), hI⟩
    ·
      rintro a w ⟨x7, rfl, ha, hI⟩
      try dsimp only at h0
      refine CodT.of ?_ ha
      by_cases hb12 : x7 = true
      · rw [if_pos hb12] at h0
        refine CodT.yes' (b := x7) (by kernel_rfl) hb12 ?_
        refine CodT.seq ?_
        refine CodT.regionL [0, 1] (by kernel_rfl) ?_
        refine OpsT.pures (r := []) [0, 1] [8] (S' := [(8, .bool y3)]) (by kernel_rfl) ?_
        refine OpsT.done ?_
        refine Qn.then ?_
        refine CodT.ret ?_
        refine Qn.ret_then ?_
        have hI := hI.drop
        have e := someS h0
        subst e
        refine Qn.keep [8] (S' := [(8, .bool y3)]) (by kernel_rfl) ?_
        exact post_ret (v := .bool y3) (fun a ha => RunRes.run (vs := [.bool y3]) (.tmp (t := 8) (by kernel_rfl) .nil) ha (by kernel_rfl)) ⟨rfl, hI⟩
      · rw [if_neg hb12] at h0
        refine CodT.no' (b := x7) (by kernel_rfl) (by simpa using hb12) ?_
        refine CodT.skip ?_
        refine Qn.then ?_
        refine CodT.seq ?_
        refine CodT.regionL [0, 1, 2, 3, 4, 5, 6, 7, 8] (by kernel_rfl) ?_
        refine OpsT.cons (Does.yi (Yl.load (d := 39) (T := 27) (v := .agg ((([.int .i64 a0_ID, .string a0_Name, .string a0_Data, .bool a0_Sealed, .int .i64 a0_Until, .slice A_a0_Holds a0_Holds.length c_a0_Holds] : List Value))).toArray) (by kernel_rfl) (ldBN ty27 (l := (([.int .i64 a0_ID, .string a0_Name, .string a0_Data, .bool a0_Sealed, .int .i64 a0_Until, .slice A_a0_Holds a0_Holds.length c_a0_Holds] : List Value))) (o := 0) (cs := (([.int .i64 a0_ID, .string a0_Name, .string a0_Data, .bool a0_Sealed, .int .i64 a0_Until, .slice A_a0_Holds a0_Holds.length c_a0_Holds] : List Value))) (ent_refl _) (by kernel_rfl) (whole _ _ (by kernel_rfl)))) hI ?_)
        refine OpsT.pures (r := [2, 3, 4, 5, 6, 7, 8]) [1] [1, 2, 3, 4, 9, 39, 40] (S' := [(1, .int .i64 a1), (2, .int .i64 a2), (3, .string a3), (4, .pointer (some ⟨b1, 0, none⟩)), (9, .bool y3), (39, .agg ((([.int .i64 a0_ID, .string a0_Name, .string a0_Data, .bool a0_Sealed, .int .i64 a0_Until, .slice A_a0_Holds a0_Holds.length c_a0_Holds] : List Value))).toArray), (40, .int .i64 a2)]) (by kernel_rfl) ?_
        obtain ⟨⟨y14, y15, y16, y17, y18, y19, y23⟩, hc13, h0⟩ := bindS h0
        try dsimp only at h0
        refine OpsT.cons (Does.call (d := some 41) (n := 20) (vs := [.agg ((([.int .i64 a0_ID, .string a0_Name, .string a0_Data, .bool a0_Sealed, .int .i64 a0_Until, .slice A_a0_Holds a0_Holds.length c_a0_Holds] : List Value))).toArray, .int .i64 a2]) (by kernel_rfl) en20 (c20 w0 w _ _ hI hT a0_ID a0_Name a0_Data a0_Sealed a0_Until A_a0_Holds c_a0_Holds a0_Holds hr_a0_Holds a2 _ hc13) ?_)
        rintro e w ⟨A20, cp21, Z24, hle25, rfl, hr22, hI⟩
        refine ⟨_, rfl, ?_⟩
        refine OpsT.pures (r := [6, 7, 8]) [3, 4, 5] [1, 2, 3, 4, 9, 42, 43] (S' := [(1, .int .i64 a1), (2, .int .i64 a2), (3, .string a3), (4, .pointer (some ⟨b1, 0, none⟩)), (9, .bool y3), (42, .agg ((([.int .i64 y14, .string y15, .string y16, .bool y17, .int .i64 y18, .slice A20 y19.length cp21] : List Value))).toArray), (43, .int .i64 y23)]) (by kernel_rfl) ?_
        refine OpsT.cons (Does.allocL (d := 11) (T := 27) ((([.int .i64 0, .string (⟨#[]⟩ : ByteArray), .string (⟨#[]⟩ : ByteArray), .bool false, .int .i64 0, .slice none 0 0] : List Value))) (by kernel_rfl) ty27 hI (by kernel_rfl) ?_)
        intro b26 w hI
        refine OpsT.cons (Does.storeLit (T := 27) (b := b26) (o := 0) (v := .agg ((([.int .i64 y14, .string y15, .string y16, .bool y17, .int .i64 y18, .slice A20 y19.length cp21] : List Value))).toArray) (l := (([.int .i64 0, .string (⟨#[]⟩ : ByteArray), .string (⟨#[]⟩ : ByteArray), .bool false, .int .i64 0, .slice none 0 0] : List Value))) (vs := (([.int .i64 y14, .string y15, .string y16, .bool y17, .int .i64 y18, .slice A20 y19.length cp21] : List Value))) (L' := (([.int .i64 y14, .string y15, .string y16, .bool y17, .int .i64 y18, .slice A20 y19.length cp21] : List Value))) (by kernel_rfl) ty27 hI (by kernel_rfl) (by kernel_rfl) (by kernel_rfl) (by kernel_rfl) (by kernel_rfl) ?_)
        intro w hI
        refine OpsT.pures (r := []) [8] [1, 2, 3, 4, 9, 11, 12] (S' := [(1, .int .i64 a1), (2, .int .i64 a2), (3, .string a3), (4, .pointer (some ⟨b1, 0, none⟩)), (9, .bool y3), (11, .pointer (some ⟨b26, 0, none⟩)), (12, .int .i64 y23)]) (by kernel_rfl) ?_
        refine OpsT.done ?_
        refine Qn.then ?_
        refine CodT.seq ?_
        refine CodT.regionL [0, 1, 2, 3, 4, 5, 6, 7, 8] (by kernel_rfl) ?_
        refine OpsT.cons (Does.yi (Yl.load (d := 45) (T := 27) (v := .agg ((([.int .i64 a0_ID, .string a0_Name, .string a0_Data, .bool a0_Sealed, .int .i64 a0_Until, .slice A_a0_Holds a0_Holds.length c_a0_Holds] : List Value))).toArray) (by kernel_rfl) (ldBN ty27 (l := (([.int .i64 a0_ID, .string a0_Name, .string a0_Data, .bool a0_Sealed, .int .i64 a0_Until, .slice A_a0_Holds a0_Holds.length c_a0_Holds] : List Value))) (o := 0) (cs := (([.int .i64 a0_ID, .string a0_Name, .string a0_Data, .bool a0_Sealed, .int .i64 a0_Until, .slice A_a0_Holds a0_Holds.length c_a0_Holds] : List Value))) (pick2 _ _ _) (by kernel_rfl) (whole _ _ (by kernel_rfl)))) hI ?_)
        refine OpsT.pures (r := [2, 3, 4, 5, 6, 7, 8]) [1] [1, 3, 4, 9, 11, 12, 45, 46] (S' := [(1, .int .i64 a1), (3, .string a3), (4, .pointer (some ⟨b1, 0, none⟩)), (9, .bool y3), (11, .pointer (some ⟨b26, 0, none⟩)), (12, .int .i64 y23), (45, .agg ((([.int .i64 a0_ID, .string a0_Name, .string a0_Data, .bool a0_Sealed, .int .i64 a0_Until, .slice A_a0_Holds a0_Holds.length c_a0_Holds] : List Value))).toArray), (46, .int .i64 a2)]) (by kernel_rfl) ?_
        obtain ⟨⟨y28, y29, y30, y31, y32, y33, y37⟩, hc27, h0⟩ := bindS h0
        try dsimp only at h0
        refine OpsT.cons (Does.call (d := some 47) (n := 21) (vs := [.agg ((([.int .i64 a0_ID, .string a0_Name, .string a0_Data, .bool a0_Sealed, .int .i64 a0_Until, .slice A_a0_Holds a0_Holds.length c_a0_Holds] : List Value))).toArray, .int .i64 a2]) (by kernel_rfl) en21 (c21 w0 w _ _ hI (hT.mono hle25) a0_ID a0_Name a0_Data a0_Sealed a0_Until A_a0_Holds c_a0_Holds a0_Holds (hr_a0_Holds.mono hle25) a2 _ hc27) ?_)
        rintro e w ⟨A34, cp35, Z38, hle39, rfl, hr36, hI⟩
        refine ⟨_, rfl, ?_⟩
        refine OpsT.pures (r := [6, 7, 8]) [3, 4, 5] [1, 3, 4, 9, 11, 12, 48, 49] (S' := [(1, .int .i64 a1), (3, .string a3), (4, .pointer (some ⟨b1, 0, none⟩)), (9, .bool y3), (11, .pointer (some ⟨b26, 0, none⟩)), (12, .int .i64 y23), (48, .agg ((([.int .i64 y28, .string y29, .string y30, .bool y31, .int .i64 y32, .slice A34 y33.length cp35] : List Value))).toArray), (49, .int .i64 y37)]) (by kernel_rfl) ?_
        refine OpsT.cons (Does.allocL (d := 13) (T := 27) ((([.int .i64 0, .string (⟨#[]⟩ : ByteArray), .string (⟨#[]⟩ : ByteArray), .bool false, .int .i64 0, .slice none 0 0] : List Value))) (by kernel_rfl) ty27 hI (by kernel_rfl) ?_)
        intro b40 w hI
        refine OpsT.cons (Does.storeLit (T := 27) (b := b40) (o := 0) (v := .agg ((([.int .i64 y28, .string y29, .string y30, .bool y31, .int .i64 y32, .slice A34 y33.length cp35] : List Value))).toArray) (l := (([.int .i64 0, .string (⟨#[]⟩ : ByteArray), .string (⟨#[]⟩ : ByteArray), .bool false, .int .i64 0, .slice none 0 0] : List Value))) (vs := (([.int .i64 y28, .string y29, .string y30, .bool y31, .int .i64 y32, .slice A34 y33.length cp35] : List Value))) (L' := (([.int .i64 y28, .string y29, .string y30, .bool y31, .int .i64 y32, .slice A34 y33.length cp35] : List Value))) (by kernel_rfl) ty27 hI (by kernel_rfl) (by kernel_rfl) (by kernel_rfl) (by kernel_rfl) (by kernel_rfl) ?_)
        intro w hI
        refine OpsT.pures (r := []) [8] [1, 3, 4, 9, 11, 12, 13] (S' := [(1, .int .i64 a1), (3, .string a3), (4, .pointer (some ⟨b1, 0, none⟩)), (9, .bool y3), (11, .pointer (some ⟨b26, 0, none⟩)), (12, .int .i64 y23), (13, .pointer (some ⟨b40, 0, none⟩))]) (by kernel_rfl) ?_
        refine OpsT.done ?_
        refine Qn.then ?_
        refine CodT.seq ?_
        refine CodT.regionL [0, 1, 2, 3, 4, 5, 6, 7, 8] (by kernel_rfl) ?_
        refine OpsT.cons (Does.yi (Yl.load (d := 51) (T := 27) (v := .agg ((([.int .i64 a0_ID, .string a0_Name, .string a0_Data, .bool a0_Sealed, .int .i64 a0_Until, .slice A_a0_Holds a0_Holds.length c_a0_Holds] : List Value))).toArray) (by kernel_rfl) (ldBN ty27 (l := (([.int .i64 a0_ID, .string a0_Name, .string a0_Data, .bool a0_Sealed, .int .i64 a0_Until, .slice A_a0_Holds a0_Holds.length c_a0_Holds] : List Value))) (o := 0) (cs := (([.int .i64 a0_ID, .string a0_Name, .string a0_Data, .bool a0_Sealed, .int .i64 a0_Until, .slice A_a0_Holds a0_Holds.length c_a0_Holds] : List Value))) (pick3 _ _ _ _) (by kernel_rfl) (whole _ _ (by kernel_rfl)))) hI ?_)
        refine OpsT.pures (r := [2, 3, 4, 5, 6, 7, 8]) [1] [1, 3, 4, 9, 11, 12, 13, 51, 52] (S' := [(1, .int .i64 a1), (3, .string a3), (4, .pointer (some ⟨b1, 0, none⟩)), (9, .bool y3), (11, .pointer (some ⟨b26, 0, none⟩)), (12, .int .i64 y23), (13, .pointer (some ⟨b40, 0, none⟩)), (51, .agg ((([.int .i64 a0_ID, .string a0_Name, .string a0_Data, .bool a0_Sealed, .int .i64 a0_Until, .slice A_a0_Holds a0_Holds.length c_a0_Holds] : List Value))).toArray), (52, .string a3)]) (by kernel_rfl) ?_
        obtain ⟨⟨y42, y43, y44, y45, y46, y47, y51⟩, hc41, h0⟩ := bindS h0
        try dsimp only at h0
        refine OpsT.cons (Does.call (d := some 53) (n := 22) (vs := [.agg ((([.int .i64 a0_ID, .string a0_Name, .string a0_Data, .bool a0_Sealed, .int .i64 a0_Until, .slice A_a0_Holds a0_Holds.length c_a0_Holds] : List Value))).toArray, .string a3]) (by kernel_rfl) en22 (c22 w0 w _ _ hI (hT.mono (Hp.le_trans hle25 hle39)) a0_ID a0_Name a0_Data a0_Sealed a0_Until A_a0_Holds c_a0_Holds a0_Holds (hr_a0_Holds.mono (Hp.le_trans hle25 hle39)) a3 _ hc41) ?_)
        rintro e w ⟨A48, cp49, Z52, hle53, rfl, hr50, hI⟩
        refine ⟨_, rfl, ?_⟩
        refine OpsT.pures (r := [6, 7, 8]) [3, 4, 5] [1, 3, 4, 9, 11, 12, 13, 54, 55] (S' := [(1, .int .i64 a1), (3, .string a3), (4, .pointer (some ⟨b1, 0, none⟩)), (9, .bool y3), (11, .pointer (some ⟨b26, 0, none⟩)), (12, .int .i64 y23), (13, .pointer (some ⟨b40, 0, none⟩)), (54, .agg ((([.int .i64 y42, .string y43, .string y44, .bool y45, .int .i64 y46, .slice A48 y47.length cp49] : List Value))).toArray), (55, .int .i64 y51)]) (by kernel_rfl) ?_
        refine OpsT.cons (Does.allocL (d := 15) (T := 27) ((([.int .i64 0, .string (⟨#[]⟩ : ByteArray), .string (⟨#[]⟩ : ByteArray), .bool false, .int .i64 0, .slice none 0 0] : List Value))) (by kernel_rfl) ty27 hI (by kernel_rfl) ?_)
        intro b54 w hI
        refine OpsT.cons (Does.storeLit (T := 27) (b := b54) (o := 0) (v := .agg ((([.int .i64 y42, .string y43, .string y44, .bool y45, .int .i64 y46, .slice A48 y47.length cp49] : List Value))).toArray) (l := (([.int .i64 0, .string (⟨#[]⟩ : ByteArray), .string (⟨#[]⟩ : ByteArray), .bool false, .int .i64 0, .slice none 0 0] : List Value))) (vs := (([.int .i64 y42, .string y43, .string y44, .bool y45, .int .i64 y46, .slice A48 y47.length cp49] : List Value))) (L' := (([.int .i64 y42, .string y43, .string y44, .bool y45, .int .i64 y46, .slice A48 y47.length cp49] : List Value))) (by kernel_rfl) ty27 hI (by kernel_rfl) (by kernel_rfl) (by kernel_rfl) (by kernel_rfl) (by kernel_rfl) ?_)
        intro w hI
        refine OpsT.pures (r := []) [8] [1, 3, 4, 9, 11, 12, 13, 15] (S' := [(1, .int .i64 a1), (3, .string a3), (4, .pointer (some ⟨b1, 0, none⟩)), (9, .bool y3), (11, .pointer (some ⟨b26, 0, none⟩)), (12, .int .i64 y23), (13, .pointer (some ⟨b40, 0, none⟩)), (15, .pointer (some ⟨b54, 0, none⟩))]) (by kernel_rfl) ?_
        refine OpsT.done ?_
        refine Qn.then ?_
        refine CodT.seq ?_
        refine CodT.regionL [0, 1, 2, 3, 4, 5, 6, 7, 8] (by kernel_rfl) ?_
        refine OpsT.cons (Does.yi (Yl.load (d := 57) (T := 27) (v := .agg ((([.int .i64 a0_ID, .string a0_Name, .string a0_Data, .bool a0_Sealed, .int .i64 a0_Until, .slice A_a0_Holds a0_Holds.length c_a0_Holds] : List Value))).toArray) (by kernel_rfl) (ldBN ty27 (l := (([.int .i64 a0_ID, .string a0_Name, .string a0_Data, .bool a0_Sealed, .int .i64 a0_Until, .slice A_a0_Holds a0_Holds.length c_a0_Holds] : List Value))) (o := 0) (cs := (([.int .i64 a0_ID, .string a0_Name, .string a0_Data, .bool a0_Sealed, .int .i64 a0_Until, .slice A_a0_Holds a0_Holds.length c_a0_Holds] : List Value))) (pick4 _ _ _ _ _) (by kernel_rfl) (whole _ _ (by kernel_rfl)))) hI ?_)
        refine OpsT.pures (r := [2, 3, 4, 5, 6, 7, 8]) [1] [1, 4, 9, 11, 12, 13, 15, 57, 58] (S' := [(1, .int .i64 a1), (4, .pointer (some ⟨b1, 0, none⟩)), (9, .bool y3), (11, .pointer (some ⟨b26, 0, none⟩)), (12, .int .i64 y23), (13, .pointer (some ⟨b40, 0, none⟩)), (15, .pointer (some ⟨b54, 0, none⟩)), (57, .agg ((([.int .i64 a0_ID, .string a0_Name, .string a0_Data, .bool a0_Sealed, .int .i64 a0_Until, .slice A_a0_Holds a0_Holds.length c_a0_Holds] : List Value))).toArray), (58, .string a3)]) (by kernel_rfl) ?_
        obtain ⟨⟨y56, y57, y58, y59, y60, y61, y65⟩, hc55, h0⟩ := bindS h0
        try dsimp only at h0
        refine OpsT.cons (Does.call (d := some 59) (n := 23) (vs := [.agg ((([.int .i64 a0_ID, .string a0_Name, .string a0_Data, .bool a0_Sealed, .int .i64 a0_Until, .slice A_a0_Holds a0_Holds.length c_a0_Holds] : List Value))).toArray, .string a3]) (by kernel_rfl) en23 (c23 w0 w _ _ hI (hT.mono (Hp.le_trans (Hp.le_trans hle25 hle39) hle53)) a0_ID a0_Name a0_Data a0_Sealed a0_Until A_a0_Holds c_a0_Holds a0_Holds (hr_a0_Holds.mono (Hp.le_trans (Hp.le_trans hle25 hle39) hle53)) a3 _ hc55) ?_)
        rintro e w ⟨A62, cp63, Z66, hle67, rfl, hr64, hI⟩
        refine ⟨_, rfl, ?_⟩
        refine OpsT.pures (r := [6, 7, 8]) [3, 4, 5] [1, 4, 9, 11, 12, 13, 15, 60, 61] (S' := [(1, .int .i64 a1), (4, .pointer (some ⟨b1, 0, none⟩)), (9, .bool y3), (11, .pointer (some ⟨b26, 0, none⟩)), (12, .int .i64 y23), (13, .pointer (some ⟨b40, 0, none⟩)), (15, .pointer (some ⟨b54, 0, none⟩)), (60, .agg ((([.int .i64 y56, .string y57, .string y58, .bool y59, .int .i64 y60, .slice A62 y61.length cp63] : List Value))).toArray), (61, .int .i64 y65)]) (by kernel_rfl) ?_
        refine OpsT.cons (Does.allocL (d := 17) (T := 27) ((([.int .i64 0, .string (⟨#[]⟩ : ByteArray), .string (⟨#[]⟩ : ByteArray), .bool false, .int .i64 0, .slice none 0 0] : List Value))) (by kernel_rfl) ty27 hI (by kernel_rfl) ?_)
        intro b68 w hI
        refine OpsT.cons (Does.storeLit (T := 27) (b := b68) (o := 0) (v := .agg ((([.int .i64 y56, .string y57, .string y58, .bool y59, .int .i64 y60, .slice A62 y61.length cp63] : List Value))).toArray) (l := (([.int .i64 0, .string (⟨#[]⟩ : ByteArray), .string (⟨#[]⟩ : ByteArray), .bool false, .int .i64 0, .slice none 0 0] : List Value))) (vs := (([.int .i64 y56, .string y57, .string y58, .bool y59, .int .i64 y60, .slice A62 y61.length cp63] : List Value))) (L' := (([.int .i64 y56, .string y57, .string y58, .bool y59, .int .i64 y60, .slice A62 y61.length cp63] : List Value))) (by kernel_rfl) ty27 hI (by kernel_rfl) (by kernel_rfl) (by kernel_rfl) (by kernel_rfl) (by kernel_rfl) ?_)
        intro w hI
        refine OpsT.pures (r := []) [8] [1, 4, 9, 11, 12, 13, 15, 17] (S' := [(1, .int .i64 a1), (4, .pointer (some ⟨b1, 0, none⟩)), (9, .bool y3), (11, .pointer (some ⟨b26, 0, none⟩)), (12, .int .i64 y23), (13, .pointer (some ⟨b40, 0, none⟩)), (15, .pointer (some ⟨b54, 0, none⟩)), (17, .pointer (some ⟨b68, 0, none⟩))]) (by kernel_rfl) ?_
        refine OpsT.done ?_
        refine Qn.then ?_
        refine CodT.seq ?_
        obtain ⟨r1, h1, h0⟩ := bindS h0
        refine CodT.meet (fun a w => ∃ (x69 : Bool), x69 = r1 ∧ Fr 150 [(1, .int .i64 a1), (4, .pointer (some ⟨b1, 0, none⟩)), (9, .bool y3), (11, .pointer (some ⟨b26, 0, none⟩)), (13, .pointer (some ⟨b40, 0, none⟩)), (15, .pointer (some ⟨b54, 0, none⟩)), (17, .pointer (some ⟨b68, 0, none⟩)), (81, .bool x69)] a ∧ Inv w0 Z66 w (star (pt b68 (.cells ((([.int .i64 y56, .string y57, .string y58, .bool y59, .int .i64 y60, .slice A62 y61.length cp63] : List Value))).toArray 27 (0, 0))) (star (pt b54 (.cells ((([.int .i64 y42, .string y43, .string y44, .bool y45, .int .i64 y46, .slice A48 y47.length cp49] : List Value))).toArray 27 (0, 0))) (star (pt b40 (.cells ((([.int .i64 y28, .string y29, .string y30, .bool y31, .int .i64 y32, .slice A34 y33.length cp35] : List Value))).toArray 27 (0, 0))) (star (pt b26 (.cells ((([.int .i64 y14, .string y15, .string y16, .bool y17, .int .i64 y18, .slice A20 y19.length cp21] : List Value))).toArray 27 (0, 0))) (star (pt b1 (.cells ((([.int .i64 a0_ID, .string a0_Name, .string a0_Data, .bool a0_Sealed, .int .i64 a0_Until, .slice A_a0_Holds a0_Holds.length c_a0_Holds] : List Value))).toArray 27 (0, 0))) A)))))) ?_ ?_
        ·
          refine CodT.regionL [0, 1, 2, 3, 4, 5, 6, 7, 8, 9, 10, 11, 12, 13, 14, 15, 16, 17, 18, 19] (by kernel_rfl) ?_
          refine OpsT.pures (r := [3, 4, 5, 6, 7, 8, 9, 10, 11, 12, 13, 14, 15, 16, 17, 18, 19]) [0, 1, 2] [1, 4, 9, 11, 13, 15, 17, 64] (S' := [(1, .int .i64 a1), (4, .pointer (some ⟨b1, 0, none⟩)), (9, .bool y3), (11, .pointer (some ⟨b26, 0, none⟩)), (13, .pointer (some ⟨b40, 0, none⟩)), (15, .pointer (some ⟨b54, 0, none⟩)), (17, .pointer (some ⟨b68, 0, none⟩)), (64, .bool (y23 != 5))]) (by kernel_rfl) ?_
          by_cases hb70 : (y23 != 5) = true
          · rw [if_pos hb70] at h1
            refine OpsT.keep [1, 4, 9, 11, 13, 15, 17, 64] (S' := [(1, .int .i64 a1), (4, .pointer (some ⟨b1, 0, none⟩)), (9, .bool y3), (11, .pointer (some ⟨b26, 0, none⟩)), (13, .pointer (some ⟨b40, 0, none⟩)), (15, .pointer (some ⟨b54, 0, none⟩)), (17, .pointer (some ⟨b68, 0, none⟩)), (64, .bool true)]) (by (try simp only [hb70]); kernel_rfl) ?_
            refine OpsT.pures (r := []) [3, 4, 5, 6, 7, 8, 9, 10, 11, 12, 13, 14, 15, 16, 17, 18, 19] [1, 4, 9, 11, 13, 15, 17, 81] (S' := [(1, .int .i64 a1), (4, .pointer (some ⟨b1, 0, none⟩)), (9, .bool y3), (11, .pointer (some ⟨b26, 0, none⟩)), (13, .pointer (some ⟨b40, 0, none⟩)), (15, .pointer (some ⟨b54, 0, none⟩)), (17, .pointer (some ⟨b68, 0, none⟩)), (81, .bool true)]) (by kernel_rfl) ?_
            refine OpsT.done ?_
            have e := someS h1
            subst e
            exact Qn.thenJ fun a ha => ⟨true, rfl, ha.keep [1, 4, 9, 11, 13, 15, 17, 81] (by kernel_rfl), hI⟩
          · rw [if_neg hb70] at h1
            have hb70 : (y23 != 5) = false := by simpa using hb70
            refine OpsT.keep [1, 4, 9, 11, 13, 15, 17, 64] (S' := [(1, .int .i64 a1), (4, .pointer (some ⟨b1, 0, none⟩)), (9, .bool y3), (11, .pointer (some ⟨b26, 0, none⟩)), (13, .pointer (some ⟨b40, 0, none⟩)), (15, .pointer (some ⟨b54, 0, none⟩)), (17, .pointer (some ⟨b68, 0, none⟩)), (64, .bool false)]) (by (try simp only [hb70]); kernel_rfl) ?_
            refine OpsT.cons (Does.yi (Yl.load (d := 65) (T := 27) (v := .agg ((([.int .i64 y14, .string y15, .string y16, .bool y17, .int .i64 y18, .slice A20 y19.length cp21] : List Value))).toArray) (by kernel_rfl) (ldBN ty27 (l := (([.int .i64 y14, .string y15, .string y16, .bool y17, .int .i64 y18, .slice A20 y19.length cp21] : List Value))) (o := 0) (cs := (([.int .i64 y14, .string y15, .string y16, .bool y17, .int .i64 y18, .slice A20 y19.length cp21] : List Value))) (pick4 _ _ _ _ _) (by kernel_rfl) (whole _ _ (by kernel_rfl)))) hI ?_)
            refine OpsT.pures (r := [5, 6, 7, 8, 9, 10, 11, 12, 13, 14, 15, 16, 17, 18, 19]) [4] [1, 4, 9, 11, 13, 15, 17, 64, 65, 66] (S' := [(1, .int .i64 a1), (4, .pointer (some ⟨b1, 0, none⟩)), (9, .bool y3), (11, .pointer (some ⟨b26, 0, none⟩)), (13, .pointer (some ⟨b40, 0, none⟩)), (15, .pointer (some ⟨b54, 0, none⟩)), (17, .pointer (some ⟨b68, 0, none⟩)), (64, .bool false), (65, .agg ((([.int .i64 y14, .string y15, .string y16, .bool y17, .int .i64 y18, .slice A20 y19.length cp21] : List Value))).toArray), (66, .int .i64 a1)]) (by kernel_rfl) ?_
            obtain ⟨y72, hc71, h1⟩ := bindS h1
            try dsimp only at h1
            refine OpsT.cons (Does.call (d := some 67) (n := 14) (vs := [.agg ((([.int .i64 y14, .string y15, .string y16, .bool y17, .int .i64 y18, .slice A20 y19.length cp21] : List Value))).toArray, .int .i64 a1]) (by kernel_rfl) en14 (c14 w0 w _ _ hI (hT.mono (Hp.le_trans (Hp.le_trans (Hp.le_trans hle25 hle39) hle53) hle67)) y14 y15 y16 y17 y18 A20 cp21 y19 (hr22.mono (Hp.le_trans (Hp.le_trans hle39 hle53) hle67)) a1 _ hc71) ?_)
            rintro e w ⟨rfl, hI⟩
            refine ⟨_, rfl, ?_⟩
            refine OpsT.pures (r := [9, 10, 11, 12, 13, 14, 15, 16, 17, 18, 19]) [6, 7, 8] [1, 4, 9, 11, 13, 15, 17, 70] (S' := [(1, .int .i64 a1), (4, .pointer (some ⟨b1, 0, none⟩)), (9, .bool y3), (11, .pointer (some ⟨b26, 0, none⟩)), (13, .pointer (some ⟨b40, 0, none⟩)), (15, .pointer (some ⟨b54, 0, none⟩)), (17, .pointer (some ⟨b68, 0, none⟩)), (70, .bool (!y72))]) (by kernel_rfl) ?_
            by_cases hb73 : (!y72) = true
            · rw [if_pos hb73] at h1
              refine OpsT.keep [1, 4, 9, 11, 13, 15, 17, 70] (S' := [(1, .int .i64 a1), (4, .pointer (some ⟨b1, 0, none⟩)), (9, .bool y3), (11, .pointer (some ⟨b26, 0, none⟩)), (13, .pointer (some ⟨b40, 0, none⟩)), (15, .pointer (some ⟨b54, 0, none⟩)), (17, .pointer (some ⟨b68, 0, none⟩)), (70, .bool true)]) (by (try simp only [hb73]); kernel_rfl) ?_
              refine OpsT.pures (r := []) [9, 10, 11, 12, 13, 14, 15, 16, 17, 18, 19] [1, 4, 9, 11, 13, 15, 17, 81] (S' := [(1, .int .i64 a1), (4, .pointer (some ⟨b1, 0, none⟩)), (9, .bool y3), (11, .pointer (some ⟨b26, 0, none⟩)), (13, .pointer (some ⟨b40, 0, none⟩)), (15, .pointer (some ⟨b54, 0, none⟩)), (17, .pointer (some ⟨b68, 0, none⟩)), (81, .bool true)]) (by kernel_rfl) ?_
              refine OpsT.done ?_
              have e := someS h1
              subst e
              exact Qn.thenJ fun a ha => ⟨true, rfl, ha.keep [1, 4, 9, 11, 13, 15, 17, 81] (by kernel_rfl), hI⟩
            · rw [if_neg hb73] at h1
              have hb73 : (!y72) = false := by simpa using hb73
              refine OpsT.keep [1, 4, 9, 11, 13, 15, 17, 70] (S' := [(1, .int .i64 a1), (4, .pointer (some ⟨b1, 0, none⟩)), (9, .bool y3), (11, .pointer (some ⟨b26, 0, none⟩)), (13, .pointer (some ⟨b40, 0, none⟩)), (15, .pointer (some ⟨b54, 0, none⟩)), (17, .pointer (some ⟨b68, 0, none⟩)), (70, .bool false)]) (by (try simp only [hb73]); kernel_rfl) ?_
              refine OpsT.cons (Does.yi (Yl.load (d := 71) (T := 27) (v := .agg ((([.int .i64 y28, .string y29, .string y30, .bool y31, .int .i64 y32, .slice A34 y33.length cp35] : List Value))).toArray) (by kernel_rfl) (ldBN ty27 (l := (([.int .i64 y28, .string y29, .string y30, .bool y31, .int .i64 y32, .slice A34 y33.length cp35] : List Value))) (o := 0) (cs := (([.int .i64 y28, .string y29, .string y30, .bool y31, .int .i64 y32, .slice A34 y33.length cp35] : List Value))) (pick3 _ _ _ _) (by kernel_rfl) (whole _ _ (by kernel_rfl)))) hI ?_)
              refine OpsT.pures (r := [11, 12, 13, 14, 15, 16, 17, 18, 19]) [10] [1, 4, 9, 11, 13, 15, 17, 70, 71, 72] (S' := [(1, .int .i64 a1), (4, .pointer (some ⟨b1, 0, none⟩)), (9, .bool y3), (11, .pointer (some ⟨b26, 0, none⟩)), (13, .pointer (some ⟨b40, 0, none⟩)), (15, .pointer (some ⟨b54, 0, none⟩)), (17, .pointer (some ⟨b68, 0, none⟩)), (70, .bool false), (71, .agg ((([.int .i64 y28, .string y29, .string y30, .bool y31, .int .i64 y32, .slice A34 y33.length cp35] : List Value))).toArray), (72, .int .i64 a1)]) (by kernel_rfl) ?_
              obtain ⟨y75, hc74, h1⟩ := bindS h1
              try dsimp only at h1
              refine OpsT.cons (Does.call (d := some 73) (n := 14) (vs := [.agg ((([.int .i64 y28, .string y29, .string y30, .bool y31, .int .i64 y32, .slice A34 y33.length cp35] : List Value))).toArray, .int .i64 a1]) (by kernel_rfl) en14 (c14 w0 w _ _ hI (hT.mono (Hp.le_trans (Hp.le_trans (Hp.le_trans hle25 hle39) hle53) hle67)) y28 y29 y30 y31 y32 A34 cp35 y33 (hr36.mono (Hp.le_trans hle53 hle67)) a1 _ hc74) ?_)
              rintro e w ⟨rfl, hI⟩
              refine ⟨_, rfl, ?_⟩
              refine OpsT.pures (r := [15, 16, 17, 18, 19]) [12, 13, 14] [1, 4, 9, 11, 13, 15, 17, 76] (S' := [(1, .int .i64 a1), (4, .pointer (some ⟨b1, 0, none⟩)), (9, .bool y3), (11, .pointer (some ⟨b26, 0, none⟩)), (13, .pointer (some ⟨b40, 0, none⟩)), (15, .pointer (some ⟨b54, 0, none⟩)), (17, .pointer (some ⟨b68, 0, none⟩)), (76, .bool (!y75))]) (by kernel_rfl) ?_
              by_cases hb76 : (!y75) = true
              · rw [if_pos hb76] at h1
                refine OpsT.keep [1, 4, 9, 11, 13, 15, 17, 76] (S' := [(1, .int .i64 a1), (4, .pointer (some ⟨b1, 0, none⟩)), (9, .bool y3), (11, .pointer (some ⟨b26, 0, none⟩)), (13, .pointer (some ⟨b40, 0, none⟩)), (15, .pointer (some ⟨b54, 0, none⟩)), (17, .pointer (some ⟨b68, 0, none⟩)), (76, .bool true)]) (by (try simp only [hb76]); kernel_rfl) ?_
                refine OpsT.pures (r := []) [15, 16, 17, 18, 19] [1, 4, 9, 11, 13, 15, 17, 81] (S' := [(1, .int .i64 a1), (4, .pointer (some ⟨b1, 0, none⟩)), (9, .bool y3), (11, .pointer (some ⟨b26, 0, none⟩)), (13, .pointer (some ⟨b40, 0, none⟩)), (15, .pointer (some ⟨b54, 0, none⟩)), (17, .pointer (some ⟨b68, 0, none⟩)), (81, .bool true)]) (by kernel_rfl) ?_
                refine OpsT.done ?_
                have e := someS h1
                subst e
                exact Qn.thenJ fun a ha => ⟨true, rfl, ha.keep [1, 4, 9, 11, 13, 15, 17, 81] (by kernel_rfl), hI⟩
              · rw [if_neg hb76] at h1
                have hb76 : (!y75) = false := by simpa using hb76
                refine OpsT.keep [1, 4, 9, 11, 13, 15, 17, 76] (S' := [(1, .int .i64 a1), (4, .pointer (some ⟨b1, 0, none⟩)), (9, .bool y3), (11, .pointer (some ⟨b26, 0, none⟩)), (13, .pointer (some ⟨b40, 0, none⟩)), (15, .pointer (some ⟨b54, 0, none⟩)), (17, .pointer (some ⟨b68, 0, none⟩)), (76, .bool false)]) (by (try simp only [hb76]); kernel_rfl) ?_
                refine OpsT.cons (Does.yi (Yl.load (d := 77) (T := 27) (v := .agg ((([.int .i64 y42, .string y43, .string y44, .bool y45, .int .i64 y46, .slice A48 y47.length cp49] : List Value))).toArray) (by kernel_rfl) (ldBN ty27 (l := (([.int .i64 y42, .string y43, .string y44, .bool y45, .int .i64 y46, .slice A48 y47.length cp49] : List Value))) (o := 0) (cs := (([.int .i64 y42, .string y43, .string y44, .bool y45, .int .i64 y46, .slice A48 y47.length cp49] : List Value))) (pick2 _ _ _) (by kernel_rfl) (whole _ _ (by kernel_rfl)))) hI ?_)
                refine OpsT.pures (r := [17, 18, 19]) [16] [1, 4, 9, 11, 13, 15, 17, 76, 77, 78] (S' := [(1, .int .i64 a1), (4, .pointer (some ⟨b1, 0, none⟩)), (9, .bool y3), (11, .pointer (some ⟨b26, 0, none⟩)), (13, .pointer (some ⟨b40, 0, none⟩)), (15, .pointer (some ⟨b54, 0, none⟩)), (17, .pointer (some ⟨b68, 0, none⟩)), (76, .bool false), (77, .agg ((([.int .i64 y42, .string y43, .string y44, .bool y45, .int .i64 y46, .slice A48 y47.length cp49] : List Value))).toArray), (78, .int .i64 a1)]) (by kernel_rfl) ?_
                obtain ⟨y78, hc77, h1⟩ := bindS h1
                try dsimp only at h1
                refine OpsT.cons (Does.call (d := some 79) (n := 14) (vs := [.agg ((([.int .i64 y42, .string y43, .string y44, .bool y45, .int .i64 y46, .slice A48 y47.length cp49] : List Value))).toArray, .int .i64 a1]) (by kernel_rfl) en14 (c14 w0 w _ _ hI (hT.mono (Hp.le_trans (Hp.le_trans (Hp.le_trans hle25 hle39) hle53) hle67)) y42 y43 y44 y45 y46 A48 cp49 y47 (hr50.mono hle67) a1 _ hc77) ?_)
                rintro e w ⟨rfl, hI⟩
                refine ⟨_, rfl, ?_⟩
                refine OpsT.pures (r := []) [18, 19] [1, 4, 9, 11, 13, 15, 17, 81] (S' := [(1, .int .i64 a1), (4, .pointer (some ⟨b1, 0, none⟩)), (9, .bool y3), (11, .pointer (some ⟨b26, 0, none⟩)), (13, .pointer (some ⟨b40, 0, none⟩)), (15, .pointer (some ⟨b54, 0, none⟩)), (17, .pointer (some ⟨b68, 0, none⟩)), (81, .bool (!y78))]) (by kernel_rfl) ?_
                refine OpsT.done ?_
                have e := someS h1
                subst e
                exact Qn.thenJ fun a ha => ⟨!y78, rfl, ha.keep [1, 4, 9, 11, 13, 15, 17, 81] (by kernel_rfl), hI⟩
        ·
          rintro a w ⟨x69, rfl, ha, hI⟩
          try dsimp only at h0
          refine CodT.of ?_ ha
          by_cases hb79 : x69 = true
          · rw [if_pos hb79] at h0
            refine CodT.yes' (b := x69) (by kernel_rfl) hb79 ?_
            refine CodT.seq ?_
            refine CodT.regionL [0] (by kernel_rfl) ?_
            refine OpsT.pures (r := []) [0] [8] (S' := [(8, .bool false)]) (by kernel_rfl) ?_
            refine OpsT.done ?_
            refine Qn.then ?_
            refine CodT.ret ?_
            refine Qn.ret_then ?_
            have hI := hI.drop
            have hI := hI.drop
            have hI := hI.drop
            have hI := hI.drop
            have hI := hI.drop
            have e := someS h0
            subst e
            refine Qn.keep [8] (S' := [(8, .bool false)]) (by kernel_rfl) ?_
            exact post_ret (v := .bool false) (fun a ha => RunRes.run (vs := [.bool false]) (.tmp (t := 8) (by kernel_rfl) .nil) ha (by kernel_rfl)) ⟨rfl, hI.weaken (Hp.le_trans (Hp.le_trans (Hp.le_trans hle25 hle39) hle53) hle67)⟩
          · rw [if_neg hb79] at h0
            refine CodT.no' (b := x69) (by kernel_rfl) (by simpa using hb79) ?_
            refine CodT.skip ?_
            refine Qn.then ?_
            refine CodT.seq ?_
            obtain ⟨r1, h1, h0⟩ := bindS h0
            refine CodT.meet (fun a w => ∃ (x80 : Bool), x80 = r1 ∧ Fr 150 [(4, .pointer (some ⟨b1, 0, none⟩)), (9, .bool y3), (11, .pointer (some ⟨b26, 0, none⟩)), (13, .pointer (some ⟨b40, 0, none⟩)), (15, .pointer (some ⟨b54, 0, none⟩)), (17, .pointer (some ⟨b68, 0, none⟩)), (97, .bool x80)] a ∧ Inv w0 Z66 w (star (pt b68 (.cells ((([.int .i64 y56, .string y57, .string y58, .bool y59, .int .i64 y60, .slice A62 y61.length cp63] : List Value))).toArray 27 (0, 0))) (star (pt b54 (.cells ((([.int .i64 y42, .string y43, .string y44, .bool y45, .int .i64 y46, .slice A48 y47.length cp49] : List Value))).toArray 27 (0, 0))) (star (pt b40 (.cells ((([.int .i64 y28, .string y29, .string y30, .bool y31, .int .i64 y32, .slice A34 y33.length cp35] : List Value))).toArray 27 (0, 0))) (star (pt b26 (.cells ((([.int .i64 y14, .string y15, .string y16, .bool y17, .int .i64 y18, .slice A20 y19.length cp21] : List Value))).toArray 27 (0, 0))) (star (pt b1 (.cells ((([.int .i64 a0_ID, .string a0_Name, .string a0_Data, .bool a0_Sealed, .int .i64 a0_Until, .slice A_a0_Holds a0_Holds.length c_a0_Holds] : List Value))).toArray 27 (0, 0))) A)))))) ?_ ?_
            ·
              refine CodT.regionL [0, 1, 2, 3, 4, 5, 6, 7, 8, 9, 10, 11, 12, 13, 14, 15] (by kernel_rfl) ?_
              refine OpsT.cons (Does.yi (Yl.load (d := 82) (T := 27) (v := .agg ((([.int .i64 y56, .string y57, .string y58, .bool y59, .int .i64 y60, .slice A62 y61.length cp63] : List Value))).toArray) (by kernel_rfl) (ldBN ty27 (l := (([.int .i64 y56, .string y57, .string y58, .bool y59, .int .i64 y60, .slice A62 y61.length cp63] : List Value))) (o := 0) (cs := (([.int .i64 y56, .string y57, .string y58, .bool y59, .int .i64 y60, .slice A62 y61.length cp63] : List Value))) (ent_refl _) (by kernel_rfl) (whole _ _ (by kernel_rfl)))) hI ?_)
              refine OpsT.pures (r := [2, 3, 4, 5, 6, 7, 8, 9, 10, 11, 12, 13, 14, 15]) [1] [1, 4, 9, 11, 13, 15, 17, 82, 83] (S' := [(1, .int .i64 a1), (4, .pointer (some ⟨b1, 0, none⟩)), (9, .bool y3), (11, .pointer (some ⟨b26, 0, none⟩)), (13, .pointer (some ⟨b40, 0, none⟩)), (15, .pointer (some ⟨b54, 0, none⟩)), (17, .pointer (some ⟨b68, 0, none⟩)), (82, .agg ((([.int .i64 y56, .string y57, .string y58, .bool y59, .int .i64 y60, .slice A62 y61.length cp63] : List Value))).toArray), (83, .int .i64 a1)]) (by kernel_rfl) ?_
              obtain ⟨y82, hc81, h1⟩ := bindS h1
              try dsimp only at h1
              refine OpsT.cons (Does.call (d := some 84) (n := 14) (vs := [.agg ((([.int .i64 y56, .string y57, .string y58, .bool y59, .int .i64 y60, .slice A62 y61.length cp63] : List Value))).toArray, .int .i64 a1]) (by kernel_rfl) en14 (c14 w0 w _ _ hI (hT.mono (Hp.le_trans (Hp.le_trans (Hp.le_trans hle25 hle39) hle53) hle67)) y56 y57 y58 y59 y60 A62 cp63 y61 hr64 a1 _ hc81) ?_)
              rintro e w ⟨rfl, hI⟩
              refine ⟨_, rfl, ?_⟩
              refine OpsT.pures (r := [5, 6, 7, 8, 9, 10, 11, 12, 13, 14, 15]) [3, 4] [1, 4, 9, 11, 13, 15, 17, 86] (S' := [(1, .int .i64 a1), (4, .pointer (some ⟨b1, 0, none⟩)), (9, .bool y3), (11, .pointer (some ⟨b26, 0, none⟩)), (13, .pointer (some ⟨b40, 0, none⟩)), (15, .pointer (some ⟨b54, 0, none⟩)), (17, .pointer (some ⟨b68, 0, none⟩)), (86, .bool (!y82))]) (by kernel_rfl) ?_
              by_cases hb83 : (!y82) = true
              · rw [if_pos hb83] at h1
                refine OpsT.keep [1, 4, 9, 11, 13, 15, 17, 86] (S' := [(1, .int .i64 a1), (4, .pointer (some ⟨b1, 0, none⟩)), (9, .bool y3), (11, .pointer (some ⟨b26, 0, none⟩)), (13, .pointer (some ⟨b40, 0, none⟩)), (15, .pointer (some ⟨b54, 0, none⟩)), (17, .pointer (some ⟨b68, 0, none⟩)), (86, .bool true)]) (by (try simp only [hb83]); kernel_rfl) ?_
                refine OpsT.pures (r := [7, 8, 9, 10, 11, 12, 13, 14, 15]) [5, 6] [4, 9, 11, 13, 15, 17, 86, 87, 88] (S' := [(4, .pointer (some ⟨b1, 0, none⟩)), (9, .bool y3), (11, .pointer (some ⟨b26, 0, none⟩)), (13, .pointer (some ⟨b40, 0, none⟩)), (15, .pointer (some ⟨b54, 0, none⟩)), (17, .pointer (some ⟨b68, 0, none⟩)), (86, .bool true), (87, .int .i64 a1), (88, .pointer (some ⟨b1, 4, none⟩))]) (by kernel_rfl) ?_
                refine OpsT.cons (Does.yi (Yl.load (d := 89) (T := 3) (v := .int .i64 a0_Until) (by kernel_rfl) (ldB ty3 (l := (([.int .i64 a0_ID, .string a0_Name, .string a0_Data, .bool a0_Sealed, .int .i64 a0_Until, .slice A_a0_Holds a0_Holds.length c_a0_Holds] : List Value))) (o := 4) (v := .int .i64 a0_Until) (pick5 _ _ _ _ _ _) (by kernel_rfl))) hI ?_)
                refine OpsT.pures (r := [10, 11, 12, 13, 14, 15]) [8, 9] [4, 9, 11, 13, 15, 17, 86, 91] (S' := [(4, .pointer (some ⟨b1, 0, none⟩)), (9, .bool y3), (11, .pointer (some ⟨b26, 0, none⟩)), (13, .pointer (some ⟨b40, 0, none⟩)), (15, .pointer (some ⟨b54, 0, none⟩)), (17, .pointer (some ⟨b68, 0, none⟩)), (86, .bool true), (91, .bool (decide (a1 < a0_Until)))]) (by kernel_rfl) ?_
                by_cases hb84 : (decide (a1 < a0_Until)) = true
                · rw [if_pos hb84] at h1
                  refine OpsT.keep [4, 9, 11, 13, 15, 17, 86, 91] (S' := [(4, .pointer (some ⟨b1, 0, none⟩)), (9, .bool y3), (11, .pointer (some ⟨b26, 0, none⟩)), (13, .pointer (some ⟨b40, 0, none⟩)), (15, .pointer (some ⟨b54, 0, none⟩)), (17, .pointer (some ⟨b68, 0, none⟩)), (86, .bool true), (91, .bool true)]) (by (try simp only [hb84]); kernel_rfl) ?_
                  refine OpsT.pures (r := []) [10, 11, 12, 13, 14, 15] [4, 9, 11, 13, 15, 17, 97] (S' := [(4, .pointer (some ⟨b1, 0, none⟩)), (9, .bool y3), (11, .pointer (some ⟨b26, 0, none⟩)), (13, .pointer (some ⟨b40, 0, none⟩)), (15, .pointer (some ⟨b54, 0, none⟩)), (17, .pointer (some ⟨b68, 0, none⟩)), (97, .bool true)]) (by kernel_rfl) ?_
                  refine OpsT.done ?_
                  have e := someS h1
                  subst e
                  exact Qn.thenJ fun a ha => ⟨true, rfl, ha.keep [4, 9, 11, 13, 15, 17, 97] (by kernel_rfl), hI⟩
                · rw [if_neg hb84] at h1
                  have hb84 : (decide (a1 < a0_Until)) = false := by simpa using hb84
                  refine OpsT.keep [4, 9, 11, 13, 15, 17, 86, 91] (S' := [(4, .pointer (some ⟨b1, 0, none⟩)), (9, .bool y3), (11, .pointer (some ⟨b26, 0, none⟩)), (13, .pointer (some ⟨b40, 0, none⟩)), (15, .pointer (some ⟨b54, 0, none⟩)), (17, .pointer (some ⟨b68, 0, none⟩)), (86, .bool true), (91, .bool false)]) (by (try simp only [hb84]); kernel_rfl) ?_
                  refine OpsT.pures (r := [11, 12, 13, 14, 15]) [10] [4, 9, 11, 13, 15, 17, 86, 91, 92] (S' := [(4, .pointer (some ⟨b1, 0, none⟩)), (9, .bool y3), (11, .pointer (some ⟨b26, 0, none⟩)), (13, .pointer (some ⟨b40, 0, none⟩)), (15, .pointer (some ⟨b54, 0, none⟩)), (17, .pointer (some ⟨b68, 0, none⟩)), (86, .bool true), (91, .bool false), (92, .pointer (some ⟨b68, 5, none⟩))]) (by kernel_rfl) ?_
                  refine OpsT.cons (Does.yi (Yl.load (d := 93) (T := 25) (v := .slice A62 y61.length cp63) (by kernel_rfl) (ldB ty25 (l := (([.int .i64 y56, .string y57, .string y58, .bool y59, .int .i64 y60, .slice A62 y61.length cp63] : List Value))) (o := 5) (v := .slice A62 y61.length cp63) (ent_refl _) (by kernel_rfl))) hI ?_)
                  refine OpsT.pures (r := []) [12, 13, 14, 15] [4, 9, 11, 13, 15, 17, 97] (S' := [(4, .pointer (some ⟨b1, 0, none⟩)), (9, .bool y3), (11, .pointer (some ⟨b26, 0, none⟩)), (13, .pointer (some ⟨b40, 0, none⟩)), (15, .pointer (some ⟨b54, 0, none⟩)), (17, .pointer (some ⟨b68, 0, none⟩)), (97, .bool (decide ((y61.length : Int) > 0)))]) (by kernel_rfl) ?_
                  refine OpsT.done ?_
                  have e := someS h1
                  subst e
                  exact Qn.thenJ fun a ha => ⟨decide ((y61.length : Int) > 0), rfl, ha.keep [4, 9, 11, 13, 15, 17, 97] (by kernel_rfl), hI⟩
              · rw [if_neg hb83] at h1
                have hb83 : (!y82) = false := by simpa using hb83
                refine OpsT.keep [1, 4, 9, 11, 13, 15, 17, 86] (S' := [(1, .int .i64 a1), (4, .pointer (some ⟨b1, 0, none⟩)), (9, .bool y3), (11, .pointer (some ⟨b26, 0, none⟩)), (13, .pointer (some ⟨b40, 0, none⟩)), (15, .pointer (some ⟨b54, 0, none⟩)), (17, .pointer (some ⟨b68, 0, none⟩)), (86, .bool false)]) (by (try simp only [hb83]); kernel_rfl) ?_
                refine OpsT.pures (r := []) [5, 6, 7, 8, 9, 10, 11, 12, 13, 14, 15] [4, 9, 11, 13, 15, 17, 97] (S' := [(4, .pointer (some ⟨b1, 0, none⟩)), (9, .bool y3), (11, .pointer (some ⟨b26, 0, none⟩)), (13, .pointer (some ⟨b40, 0, none⟩)), (15, .pointer (some ⟨b54, 0, none⟩)), (17, .pointer (some ⟨b68, 0, none⟩)), (97, .bool false)]) (by kernel_rfl) ?_
                refine OpsT.done ?_
                have e := someS h1
                subst e
                exact Qn.thenJ fun a ha => ⟨false, rfl, ha.keep [4, 9, 11, 13, 15, 17, 97] (by kernel_rfl), hI⟩
            ·
              rintro a w ⟨x80, rfl, ha, hI⟩
              try dsimp only at h0
              refine CodT.of ?_ ha
              by_cases hb85 : x80 = true
              · rw [if_pos hb85] at h0
                refine CodT.yes' (b := x80) (by kernel_rfl) hb85 ?_
                refine CodT.seq ?_
                refine CodT.regionL [0] (by kernel_rfl) ?_
                refine OpsT.pures (r := []) [0] [8] (S' := [(8, .bool false)]) (by kernel_rfl) ?_
                refine OpsT.done ?_
                refine Qn.then ?_
                refine CodT.ret ?_
                refine Qn.ret_then ?_
                have hI := hI.drop
                have hI := hI.drop
                have hI := hI.drop
                have hI := hI.drop
                have hI := hI.drop
                have e := someS h0
                subst e
                refine Qn.keep [8] (S' := [(8, .bool false)]) (by kernel_rfl) ?_
                exact post_ret (v := .bool false) (fun a ha => RunRes.run (vs := [.bool false]) (.tmp (t := 8) (by kernel_rfl) .nil) ha (by kernel_rfl)) ⟨rfl, hI.weaken (Hp.le_trans (Hp.le_trans (Hp.le_trans hle25 hle39) hle53) hle67)⟩
              · rw [if_neg hb85] at h0
                refine CodT.no' (b := x80) (by kernel_rfl) (by simpa using hb85) ?_
                refine CodT.skip ?_
                refine Qn.then ?_
                obtain ⟨r1, h1, h0⟩ := bindS h0
                refine CodT.meet (fun a w => ∃ (x86 : Bool), x86 = r1 ∧ Fr 150 [(8, .bool x86)] a ∧ Inv w0 Z66 w A) ?_ ?_
                ·
                  refine CodT.regionL [0, 1, 2, 3, 4, 5, 6, 7, 8, 9, 10, 11, 12, 13, 14, 15, 16, 17, 18, 19, 20, 21, 22, 23, 24, 25, 26, 27, 28, 29, 30, 31, 32, 33, 34, 35, 36, 37, 38, 39, 40, 41, 42, 43, 44, 45, 46, 47, 48, 49, 50, 51, 52] (by kernel_rfl) ?_
                  refine OpsT.pures (r := [2, 3, 4, 5, 6, 7, 8, 9, 10, 11, 12, 13, 14, 15, 16, 17, 18, 19, 20, 21, 22, 23, 24, 25, 26, 27, 28, 29, 30, 31, 32, 33, 34, 35, 36, 37, 38, 39, 40, 41, 42, 43, 44, 45, 46, 47, 48, 49, 50, 51, 52]) [0, 1] [4, 11, 13, 15, 17, 99] (S' := [(4, .pointer (some ⟨b1, 0, none⟩)), (11, .pointer (some ⟨b26, 0, none⟩)), (13, .pointer (some ⟨b40, 0, none⟩)), (15, .pointer (some ⟨b54, 0, none⟩)), (17, .pointer (some ⟨b68, 0, none⟩)), (99, .bool y3)]) (by kernel_rfl) ?_
                  by_cases hb87 : y3 = true
                  · rw [if_pos hb87] at h1
                    refine OpsT.keep [4, 11, 13, 15, 17, 99] (S' := [(4, .pointer (some ⟨b1, 0, none⟩)), (11, .pointer (some ⟨b26, 0, none⟩)), (13, .pointer (some ⟨b40, 0, none⟩)), (15, .pointer (some ⟨b54, 0, none⟩)), (17, .pointer (some ⟨b68, 0, none⟩)), (99, .bool true)]) (by (try simp only [hb87]); kernel_rfl) ?_
                    refine OpsT.pures (r := [3, 4, 5, 6, 7, 8, 9, 10, 11, 12, 13, 14, 15, 16, 17, 18, 19, 20, 21, 22, 23, 24, 25, 26, 27, 28, 29, 30, 31, 32, 33, 34, 35, 36, 37, 38, 39, 40, 41, 42, 43, 44, 45, 46, 47, 48, 49, 50, 51, 52]) [2] [4, 11, 13, 15, 17, 99, 100] (S' := [(4, .pointer (some ⟨b1, 0, none⟩)), (11, .pointer (some ⟨b26, 0, none⟩)), (13, .pointer (some ⟨b40, 0, none⟩)), (15, .pointer (some ⟨b54, 0, none⟩)), (17, .pointer (some ⟨b68, 0, none⟩)), (99, .bool true), (100, .pointer (some ⟨b40, 4, none⟩))]) (by kernel_rfl) ?_
                    refine OpsT.cons (Does.yi (Yl.load (d := 101) (T := 3) (v := .int .i64 y32) (by kernel_rfl) (ldB ty3 (l := (([.int .i64 y28, .string y29, .string y30, .bool y31, .int .i64 y32, .slice A34 y33.length cp35] : List Value))) (o := 4) (v := .int .i64 y32) (pick3 _ _ _ _) (by kernel_rfl))) hI ?_)
                    refine OpsT.pures (r := [5, 6, 7, 8, 9, 10, 11, 12, 13, 14, 15, 16, 17, 18, 19, 20, 21, 22, 23, 24, 25, 26, 27, 28, 29, 30, 31, 32, 33, 34, 35, 36, 37, 38, 39, 40, 41, 42, 43, 44, 45, 46, 47, 48, 49, 50, 51, 52]) [4] [4, 11, 13, 15, 17, 99, 101, 102] (S' := [(4, .pointer (some ⟨b1, 0, none⟩)), (11, .pointer (some ⟨b26, 0, none⟩)), (13, .pointer (some ⟨b40, 0, none⟩)), (15, .pointer (some ⟨b54, 0, none⟩)), (17, .pointer (some ⟨b68, 0, none⟩)), (99, .bool true), (101, .int .i64 y32), (102, .pointer (some ⟨b1, 4, none⟩))]) (by kernel_rfl) ?_
                    refine OpsT.cons (Does.yi (Yl.load (d := 103) (T := 3) (v := .int .i64 a0_Until) (by kernel_rfl) (ldB ty3 (l := (([.int .i64 a0_ID, .string a0_Name, .string a0_Data, .bool a0_Sealed, .int .i64 a0_Until, .slice A_a0_Holds a0_Holds.length c_a0_Holds] : List Value))) (o := 4) (v := .int .i64 a0_Until) (pick5 _ _ _ _ _ _) (by kernel_rfl))) hI ?_)
                    refine OpsT.pures (r := [9, 10, 11, 12, 13, 14, 15, 16, 17, 18, 19, 20, 21, 22, 23, 24, 25, 26, 27, 28, 29, 30, 31, 32, 33, 34, 35, 36, 37, 38, 39, 40, 41, 42, 43, 44, 45, 46, 47, 48, 49, 50, 51, 52]) [6, 7, 8] [4, 11, 13, 15, 17, 106] (S' := [(4, .pointer (some ⟨b1, 0, none⟩)), (11, .pointer (some ⟨b26, 0, none⟩)), (13, .pointer (some ⟨b40, 0, none⟩)), (15, .pointer (some ⟨b54, 0, none⟩)), (17, .pointer (some ⟨b68, 0, none⟩)), (106, .bool (decide (y32 ≥ a0_Until)))]) (by kernel_rfl) ?_
                    by_cases hb88 : (decide (y32 ≥ a0_Until)) = true
                    · rw [if_pos hb88] at h1
                      refine OpsT.keep [4, 11, 13, 15, 17, 106] (S' := [(4, .pointer (some ⟨b1, 0, none⟩)), (11, .pointer (some ⟨b26, 0, none⟩)), (13, .pointer (some ⟨b40, 0, none⟩)), (15, .pointer (some ⟨b54, 0, none⟩)), (17, .pointer (some ⟨b68, 0, none⟩)), (106, .bool true)]) (by (try simp only [hb88]); kernel_rfl) ?_
                      refine OpsT.pures (r := [10, 11, 12, 13, 14, 15, 16, 17, 18, 19, 20, 21, 22, 23, 24, 25, 26, 27, 28, 29, 30, 31, 32, 33, 34, 35, 36, 37, 38, 39, 40, 41, 42, 43, 44, 45, 46, 47, 48, 49, 50, 51, 52]) [9] [4, 13, 15, 17, 106, 107] (S' := [(4, .pointer (some ⟨b1, 0, none⟩)), (13, .pointer (some ⟨b40, 0, none⟩)), (15, .pointer (some ⟨b54, 0, none⟩)), (17, .pointer (some ⟨b68, 0, none⟩)), (106, .bool true), (107, .pointer (some ⟨b26, 3, none⟩))]) (by kernel_rfl) ?_
                      refine OpsT.cons (Does.yi (Yl.load (d := 108) (T := 4) (v := .bool y17) (by kernel_rfl) (ldB ty4 (l := (([.int .i64 y14, .string y15, .string y16, .bool y17, .int .i64 y18, .slice A20 y19.length cp21] : List Value))) (o := 3) (v := .bool y17) (pick4 _ _ _ _ _) (by kernel_rfl))) hI ?_)
                      refine OpsT.pures (r := [13, 14, 15, 16, 17, 18, 19, 20, 21, 22, 23, 24, 25, 26, 27, 28, 29, 30, 31, 32, 33, 34, 35, 36, 37, 38, 39, 40, 41, 42, 43, 44, 45, 46, 47, 48, 49, 50, 51, 52]) [11, 12] [4, 13, 15, 17, 110] (S' := [(4, .pointer (some ⟨b1, 0, none⟩)), (13, .pointer (some ⟨b40, 0, none⟩)), (15, .pointer (some ⟨b54, 0, none⟩)), (17, .pointer (some ⟨b68, 0, none⟩)), (110, .bool y17)]) (by kernel_rfl) ?_
                      by_cases hb89 : y17 = true
                      · rw [if_pos hb89] at h1
                        refine OpsT.keep [4, 13, 15, 17, 110] (S' := [(4, .pointer (some ⟨b1, 0, none⟩)), (13, .pointer (some ⟨b40, 0, none⟩)), (15, .pointer (some ⟨b54, 0, none⟩)), (17, .pointer (some ⟨b68, 0, none⟩)), (110, .bool true)]) (by (try simp only [hb89]); kernel_rfl) ?_
                        refine OpsT.pures (r := [14, 15, 16, 17, 18, 19, 20, 21, 22, 23, 24, 25, 26, 27, 28, 29, 30, 31, 32, 33, 34, 35, 36, 37, 38, 39, 40, 41, 42, 43, 44, 45, 46, 47, 48, 49, 50, 51, 52]) [13] [4, 13, 15, 17, 110, 111] (S' := [(4, .pointer (some ⟨b1, 0, none⟩)), (13, .pointer (some ⟨b40, 0, none⟩)), (15, .pointer (some ⟨b54, 0, none⟩)), (17, .pointer (some ⟨b68, 0, none⟩)), (110, .bool true), (111, .pointer (some ⟨b40, 3, none⟩))]) (by kernel_rfl) ?_
                        refine OpsT.cons (Does.yi (Yl.load (d := 112) (T := 4) (v := .bool y31) (by kernel_rfl) (ldB ty4 (l := (([.int .i64 y28, .string y29, .string y30, .bool y31, .int .i64 y32, .slice A34 y33.length cp35] : List Value))) (o := 3) (v := .bool y31) (pick3 _ _ _ _) (by kernel_rfl))) hI ?_)
                        refine OpsT.pures (r := [17, 18, 19, 20, 21, 22, 23, 24, 25, 26, 27, 28, 29, 30, 31, 32, 33, 34, 35, 36, 37, 38, 39, 40, 41, 42, 43, 44, 45, 46, 47, 48, 49, 50, 51, 52]) [15, 16] [4, 13, 15, 17, 114] (S' := [(4, .pointer (some ⟨b1, 0, none⟩)), (13, .pointer (some ⟨b40, 0, none⟩)), (15, .pointer (some ⟨b54, 0, none⟩)), (17, .pointer (some ⟨b68, 0, none⟩)), (114, .bool y31)]) (by kernel_rfl) ?_
                        by_cases hb90 : y31 = true
                        · rw [if_pos hb90] at h1
                          refine OpsT.keep [4, 13, 15, 17, 114] (S' := [(4, .pointer (some ⟨b1, 0, none⟩)), (13, .pointer (some ⟨b40, 0, none⟩)), (15, .pointer (some ⟨b54, 0, none⟩)), (17, .pointer (some ⟨b68, 0, none⟩)), (114, .bool true)]) (by (try simp only [hb90]); kernel_rfl) ?_
                          refine OpsT.pures (r := [18, 19, 20, 21, 22, 23, 24, 25, 26, 27, 28, 29, 30, 31, 32, 33, 34, 35, 36, 37, 38, 39, 40, 41, 42, 43, 44, 45, 46, 47, 48, 49, 50, 51, 52]) [17] [4, 13, 15, 17, 114, 115] (S' := [(4, .pointer (some ⟨b1, 0, none⟩)), (13, .pointer (some ⟨b40, 0, none⟩)), (15, .pointer (some ⟨b54, 0, none⟩)), (17, .pointer (some ⟨b68, 0, none⟩)), (114, .bool true), (115, .pointer (some ⟨b54, 3, none⟩))]) (by kernel_rfl) ?_
                          refine OpsT.cons (Does.yi (Yl.load (d := 116) (T := 4) (v := .bool y45) (by kernel_rfl) (ldB ty4 (l := (([.int .i64 y42, .string y43, .string y44, .bool y45, .int .i64 y46, .slice A48 y47.length cp49] : List Value))) (o := 3) (v := .bool y45) (pick2 _ _ _) (by kernel_rfl))) hI ?_)
                          refine OpsT.pures (r := [21, 22, 23, 24, 25, 26, 27, 28, 29, 30, 31, 32, 33, 34, 35, 36, 37, 38, 39, 40, 41, 42, 43, 44, 45, 46, 47, 48, 49, 50, 51, 52]) [19, 20] [4, 13, 15, 17, 118] (S' := [(4, .pointer (some ⟨b1, 0, none⟩)), (13, .pointer (some ⟨b40, 0, none⟩)), (15, .pointer (some ⟨b54, 0, none⟩)), (17, .pointer (some ⟨b68, 0, none⟩)), (118, .bool y45)]) (by kernel_rfl) ?_
                          by_cases hb91 : y45 = true
                          · rw [if_pos hb91] at h1
                            refine OpsT.keep [4, 13, 15, 17, 118] (S' := [(4, .pointer (some ⟨b1, 0, none⟩)), (13, .pointer (some ⟨b40, 0, none⟩)), (15, .pointer (some ⟨b54, 0, none⟩)), (17, .pointer (some ⟨b68, 0, none⟩)), (118, .bool true)]) (by (try simp only [hb91]); kernel_rfl) ?_
                            refine OpsT.pures (r := [22, 23, 24, 25, 26, 27, 28, 29, 30, 31, 32, 33, 34, 35, 36, 37, 38, 39, 40, 41, 42, 43, 44, 45, 46, 47, 48, 49, 50, 51, 52]) [21] [4, 13, 15, 17, 118, 119] (S' := [(4, .pointer (some ⟨b1, 0, none⟩)), (13, .pointer (some ⟨b40, 0, none⟩)), (15, .pointer (some ⟨b54, 0, none⟩)), (17, .pointer (some ⟨b68, 0, none⟩)), (118, .bool true), (119, .pointer (some ⟨b68, 3, none⟩))]) (by kernel_rfl) ?_
                            refine OpsT.cons (Does.yi (Yl.load (d := 120) (T := 4) (v := .bool y59) (by kernel_rfl) (ldB ty4 (l := (([.int .i64 y56, .string y57, .string y58, .bool y59, .int .i64 y60, .slice A62 y61.length cp63] : List Value))) (o := 3) (v := .bool y59) (ent_refl _) (by kernel_rfl))) hI ?_)
                            refine OpsT.pures (r := [25, 26, 27, 28, 29, 30, 31, 32, 33, 34, 35, 36, 37, 38, 39, 40, 41, 42, 43, 44, 45, 46, 47, 48, 49, 50, 51, 52]) [23, 24] [4, 13, 15, 17, 122] (S' := [(4, .pointer (some ⟨b1, 0, none⟩)), (13, .pointer (some ⟨b40, 0, none⟩)), (15, .pointer (some ⟨b54, 0, none⟩)), (17, .pointer (some ⟨b68, 0, none⟩)), (122, .bool y59)]) (by kernel_rfl) ?_
                            by_cases hb92 : y59 = true
                            · rw [if_pos hb92] at h1
                              refine OpsT.keep [4, 13, 15, 17, 122] (S' := [(4, .pointer (some ⟨b1, 0, none⟩)), (13, .pointer (some ⟨b40, 0, none⟩)), (15, .pointer (some ⟨b54, 0, none⟩)), (17, .pointer (some ⟨b68, 0, none⟩)), (122, .bool true)]) (by (try simp only [hb92]); kernel_rfl) ?_
                              refine OpsT.pures (r := [26, 27, 28, 29, 30, 31, 32, 33, 34, 35, 36, 37, 38, 39, 40, 41, 42, 43, 44, 45, 46, 47, 48, 49, 50, 51, 52]) [25] [4, 13, 15, 17, 122, 123] (S' := [(4, .pointer (some ⟨b1, 0, none⟩)), (13, .pointer (some ⟨b40, 0, none⟩)), (15, .pointer (some ⟨b54, 0, none⟩)), (17, .pointer (some ⟨b68, 0, none⟩)), (122, .bool true), (123, .pointer (some ⟨b68, 4, none⟩))]) (by kernel_rfl) ?_
                              refine OpsT.cons (Does.yi (Yl.load (d := 124) (T := 3) (v := .int .i64 y60) (by kernel_rfl) (ldB ty3 (l := (([.int .i64 y56, .string y57, .string y58, .bool y59, .int .i64 y60, .slice A62 y61.length cp63] : List Value))) (o := 4) (v := .int .i64 y60) (ent_refl _) (by kernel_rfl))) hI ?_)
                              refine OpsT.pures (r := [28, 29, 30, 31, 32, 33, 34, 35, 36, 37, 38, 39, 40, 41, 42, 43, 44, 45, 46, 47, 48, 49, 50, 51, 52]) [27] [4, 13, 15, 17, 122, 124, 125] (S' := [(4, .pointer (some ⟨b1, 0, none⟩)), (13, .pointer (some ⟨b40, 0, none⟩)), (15, .pointer (some ⟨b54, 0, none⟩)), (17, .pointer (some ⟨b68, 0, none⟩)), (122, .bool true), (124, .int .i64 y60), (125, .pointer (some ⟨b1, 4, none⟩))]) (by kernel_rfl) ?_
                              refine OpsT.cons (Does.yi (Yl.load (d := 126) (T := 3) (v := .int .i64 a0_Until) (by kernel_rfl) (ldB ty3 (l := (([.int .i64 a0_ID, .string a0_Name, .string a0_Data, .bool a0_Sealed, .int .i64 a0_Until, .slice A_a0_Holds a0_Holds.length c_a0_Holds] : List Value))) (o := 4) (v := .int .i64 a0_Until) (pick5 _ _ _ _ _ _) (by kernel_rfl))) hI ?_)
                              refine OpsT.pures (r := [32, 33, 34, 35, 36, 37, 38, 39, 40, 41, 42, 43, 44, 45, 46, 47, 48, 49, 50, 51, 52]) [29, 30, 31] [4, 13, 15, 17, 129] (S' := [(4, .pointer (some ⟨b1, 0, none⟩)), (13, .pointer (some ⟨b40, 0, none⟩)), (15, .pointer (some ⟨b54, 0, none⟩)), (17, .pointer (some ⟨b68, 0, none⟩)), (129, .bool (y60 == a0_Until))]) (by kernel_rfl) ?_
                              by_cases hb93 : (y60 == a0_Until) = true
                              · rw [if_pos hb93] at h1
                                refine OpsT.keep [4, 13, 15, 17, 129] (S' := [(4, .pointer (some ⟨b1, 0, none⟩)), (13, .pointer (some ⟨b40, 0, none⟩)), (15, .pointer (some ⟨b54, 0, none⟩)), (17, .pointer (some ⟨b68, 0, none⟩)), (129, .bool true)]) (by (try simp only [hb93]); kernel_rfl) ?_
                                refine OpsT.pures (r := [33, 34, 35, 36, 37, 38, 39, 40, 41, 42, 43, 44, 45, 46, 47, 48, 49, 50, 51, 52]) [32] [4, 13, 17, 129, 130] (S' := [(4, .pointer (some ⟨b1, 0, none⟩)), (13, .pointer (some ⟨b40, 0, none⟩)), (17, .pointer (some ⟨b68, 0, none⟩)), (129, .bool true), (130, .pointer (some ⟨b54, 2, none⟩))]) (by kernel_rfl) ?_
                                refine OpsT.cons (Does.yi (Yl.load (d := 131) (T := 9) (v := .string y44) (by kernel_rfl) (ldB ty9 (l := (([.int .i64 y42, .string y43, .string y44, .bool y45, .int .i64 y46, .slice A48 y47.length cp49] : List Value))) (o := 2) (v := .string y44) (pick2 _ _ _) (by kernel_rfl))) hI ?_)
                                refine OpsT.pures (r := [35, 36, 37, 38, 39, 40, 41, 42, 43, 44, 45, 46, 47, 48, 49, 50, 51, 52]) [34] [4, 13, 17, 129, 131, 132] (S' := [(4, .pointer (some ⟨b1, 0, none⟩)), (13, .pointer (some ⟨b40, 0, none⟩)), (17, .pointer (some ⟨b68, 0, none⟩)), (129, .bool true), (131, .string y44), (132, .pointer (some ⟨b1, 2, none⟩))]) (by kernel_rfl) ?_
                                refine OpsT.cons (Does.yi (Yl.load (d := 133) (T := 9) (v := .string a0_Data) (by kernel_rfl) (ldB ty9 (l := (([.int .i64 a0_ID, .string a0_Name, .string a0_Data, .bool a0_Sealed, .int .i64 a0_Until, .slice A_a0_Holds a0_Holds.length c_a0_Holds] : List Value))) (o := 2) (v := .string a0_Data) (pick5 _ _ _ _ _ _) (by kernel_rfl))) hI ?_)
                                refine OpsT.pures (r := [39, 40, 41, 42, 43, 44, 45, 46, 47, 48, 49, 50, 51, 52]) [36, 37, 38] [4, 13, 17, 136] (S' := [(4, .pointer (some ⟨b1, 0, none⟩)), (13, .pointer (some ⟨b40, 0, none⟩)), (17, .pointer (some ⟨b68, 0, none⟩)), (136, .bool (seq y44 a0_Data))]) (by kernel_rfl) ?_
                                by_cases hb94 : (seq y44 a0_Data) = true
                                · rw [if_pos hb94] at h1
                                  refine OpsT.keep [4, 13, 17, 136] (S' := [(4, .pointer (some ⟨b1, 0, none⟩)), (13, .pointer (some ⟨b40, 0, none⟩)), (17, .pointer (some ⟨b68, 0, none⟩)), (136, .bool true)]) (by (try simp only [hb94]); kernel_rfl) ?_
                                  refine OpsT.pures (r := [40, 41, 42, 43, 44, 45, 46, 47, 48, 49, 50, 51, 52]) [39] [4, 13, 136, 137] (S' := [(4, .pointer (some ⟨b1, 0, none⟩)), (13, .pointer (some ⟨b40, 0, none⟩)), (136, .bool true), (137, .pointer (some ⟨b68, 2, none⟩))]) (by kernel_rfl) ?_
                                  refine OpsT.cons (Does.yi (Yl.load (d := 138) (T := 9) (v := .string y58) (by kernel_rfl) (ldB ty9 (l := (([.int .i64 y56, .string y57, .string y58, .bool y59, .int .i64 y60, .slice A62 y61.length cp63] : List Value))) (o := 2) (v := .string y58) (ent_refl _) (by kernel_rfl))) hI ?_)
                                  refine OpsT.pures (r := [42, 43, 44, 45, 46, 47, 48, 49, 50, 51, 52]) [41] [4, 13, 136, 138, 139] (S' := [(4, .pointer (some ⟨b1, 0, none⟩)), (13, .pointer (some ⟨b40, 0, none⟩)), (136, .bool true), (138, .string y58), (139, .pointer (some ⟨b1, 2, none⟩))]) (by kernel_rfl) ?_
                                  refine OpsT.cons (Does.yi (Yl.load (d := 140) (T := 9) (v := .string a0_Data) (by kernel_rfl) (ldB ty9 (l := (([.int .i64 a0_ID, .string a0_Name, .string a0_Data, .bool a0_Sealed, .int .i64 a0_Until, .slice A_a0_Holds a0_Holds.length c_a0_Holds] : List Value))) (o := 2) (v := .string a0_Data) (pick5 _ _ _ _ _ _) (by kernel_rfl))) hI ?_)
                                  refine OpsT.pures (r := [46, 47, 48, 49, 50, 51, 52]) [43, 44, 45] [4, 13, 143] (S' := [(4, .pointer (some ⟨b1, 0, none⟩)), (13, .pointer (some ⟨b40, 0, none⟩)), (143, .bool (seq y58 a0_Data))]) (by kernel_rfl) ?_
                                  by_cases hb95 : (seq y58 a0_Data) = true
                                  · rw [if_pos hb95] at h1
                                    refine OpsT.keep [4, 13, 143] (S' := [(4, .pointer (some ⟨b1, 0, none⟩)), (13, .pointer (some ⟨b40, 0, none⟩)), (143, .bool true)]) (by (try simp only [hb95]); kernel_rfl) ?_
                                    refine OpsT.pures (r := [47, 48, 49, 50, 51, 52]) [46] [4, 143, 144] (S' := [(4, .pointer (some ⟨b1, 0, none⟩)), (143, .bool true), (144, .pointer (some ⟨b40, 2, none⟩))]) (by kernel_rfl) ?_
                                    refine OpsT.cons (Does.yi (Yl.load (d := 145) (T := 9) (v := .string y30) (by kernel_rfl) (ldB ty9 (l := (([.int .i64 y28, .string y29, .string y30, .bool y31, .int .i64 y32, .slice A34 y33.length cp35] : List Value))) (o := 2) (v := .string y30) (pick3 _ _ _ _) (by kernel_rfl))) hI ?_)
                                    refine OpsT.pures (r := [49, 50, 51, 52]) [48] [143, 145, 146] (S' := [(143, .bool true), (145, .string y30), (146, .pointer (some ⟨b1, 2, none⟩))]) (by kernel_rfl) ?_
                                    refine OpsT.cons (Does.yi (Yl.load (d := 147) (T := 9) (v := .string a0_Data) (by kernel_rfl) (ldB ty9 (l := (([.int .i64 a0_ID, .string a0_Name, .string a0_Data, .bool a0_Sealed, .int .i64 a0_Until, .slice A_a0_Holds a0_Holds.length c_a0_Holds] : List Value))) (o := 2) (v := .string a0_Data) (pick5 _ _ _ _ _ _) (by kernel_rfl))) hI ?_)
                                    refine OpsT.pures (r := []) [50, 51, 52] [8] (S' := [(8, .bool (seq y30 a0_Data))]) (by kernel_rfl) ?_
                                    refine OpsT.done ?_
                                    have hI := hI.drop
                                    have hI := hI.drop
                                    have hI := hI.drop
                                    have hI := hI.drop
                                    have hI := hI.drop
                                    have e := someS h1
                                    subst e
                                    exact Qn.thenJ fun a ha => ⟨seq y30 a0_Data, rfl, ha.keep [8] (by kernel_rfl), hI⟩
                                  · rw [if_neg hb95] at h1
                                    have hb95 : (seq y58 a0_Data) = false := by simpa using hb95
                                    refine OpsT.keep [4, 13, 143] (S' := [(4, .pointer (some ⟨b1, 0, none⟩)), (13, .pointer (some ⟨b40, 0, none⟩)), (143, .bool false)]) (by (try simp only [hb95]); kernel_rfl) ?_
                                    refine OpsT.pures (r := []) [46, 47, 48, 49, 50, 51, 52] [8] (S' := [(8, .bool false)]) (by kernel_rfl) ?_
                                    refine OpsT.done ?_
                                    have hI := hI.drop
                                    have hI := hI.drop
                                    have hI := hI.drop
                                    have hI := hI.drop
                                    have hI := hI.drop
                                    have e := someS h1
                                    subst e
                                    exact Qn.thenJ fun a ha => ⟨false, rfl, ha.keep [8] (by kernel_rfl), hI⟩
                                · rw [if_neg hb94] at h1
                                  have hb94 : (seq y44 a0_Data) = false := by simpa using hb94
                                  refine OpsT.keep [4, 13, 17, 136] (S' := [(4, .pointer (some ⟨b1, 0, none⟩)), (13, .pointer (some ⟨b40, 0, none⟩)), (17, .pointer (some ⟨b68, 0, none⟩)), (136, .bool false)]) (by (try simp only [hb94]); kernel_rfl) ?_
                                  refine OpsT.pures (r := []) [39, 40, 41, 42, 43, 44, 45, 46, 47, 48, 49, 50, 51, 52] [8] (S' := [(8, .bool false)]) (by kernel_rfl) ?_
                                  refine OpsT.done ?_
                                  have hI := hI.drop
                                  have hI := hI.drop
                                  have hI := hI.drop
                                  have hI := hI.drop
                                  have hI := hI.drop
                                  have e := someS h1
                                  subst e
                                  exact Qn.thenJ fun a ha => ⟨false, rfl, ha.keep [8] (by kernel_rfl), hI⟩
                              · rw [if_neg hb93] at h1
                                have hb93 : (y60 == a0_Until) = false := by simpa using hb93
                                refine OpsT.keep [4, 13, 15, 17, 129] (S' := [(4, .pointer (some ⟨b1, 0, none⟩)), (13, .pointer (some ⟨b40, 0, none⟩)), (15, .pointer (some ⟨b54, 0, none⟩)), (17, .pointer (some ⟨b68, 0, none⟩)), (129, .bool false)]) (by (try simp only [hb93]); kernel_rfl) ?_
                                refine OpsT.pures (r := []) [32, 33, 34, 35, 36, 37, 38, 39, 40, 41, 42, 43, 44, 45, 46, 47, 48, 49, 50, 51, 52] [8] (S' := [(8, .bool false)]) (by kernel_rfl) ?_
                                refine OpsT.done ?_
                                have hI := hI.drop
                                have hI := hI.drop
                                have hI := hI.drop
                                have hI := hI.drop
                                have hI := hI.drop
                                have e := someS h1
                                subst e
                                exact Qn.thenJ fun a ha => ⟨false, rfl, ha.keep [8] (by kernel_rfl), hI⟩
                            · rw [if_neg hb92] at h1
                              have hb92 : y59 = false := by simpa using hb92
                              refine OpsT.keep [4, 13, 15, 17, 122] (S' := [(4, .pointer (some ⟨b1, 0, none⟩)), (13, .pointer (some ⟨b40, 0, none⟩)), (15, .pointer (some ⟨b54, 0, none⟩)), (17, .pointer (some ⟨b68, 0, none⟩)), (122, .bool false)]) (by (try simp only [hb92]); kernel_rfl) ?_
                              refine OpsT.pures (r := []) [25, 26, 27, 28, 29, 30, 31, 32, 33, 34, 35, 36, 37, 38, 39, 40, 41, 42, 43, 44, 45, 46, 47, 48, 49, 50, 51, 52] [8] (S' := [(8, .bool false)]) (by kernel_rfl) ?_
                              refine OpsT.done ?_
                              have hI := hI.drop
                              have hI := hI.drop
                              have hI := hI.drop
                              have hI := hI.drop
                              have hI := hI.drop
                              have e := someS h1
                              subst e
                              exact Qn.thenJ fun a ha => ⟨false, rfl, ha.keep [8] (by kernel_rfl), hI⟩
                          · rw [if_neg hb91] at h1
                            have hb91 : y45 = false := by simpa using hb91
                            refine OpsT.keep [4, 13, 15, 17, 118] (S' := [(4, .pointer (some ⟨b1, 0, none⟩)), (13, .pointer (some ⟨b40, 0, none⟩)), (15, .pointer (some ⟨b54, 0, none⟩)), (17, .pointer (some ⟨b68, 0, none⟩)), (118, .bool false)]) (by (try simp only [hb91]); kernel_rfl) ?_
                            refine OpsT.pures (r := []) [21, 22, 23, 24, 25, 26, 27, 28, 29, 30, 31, 32, 33, 34, 35, 36, 37, 38, 39, 40, 41, 42, 43, 44, 45, 46, 47, 48, 49, 50, 51, 52] [8] (S' := [(8, .bool false)]) (by kernel_rfl) ?_
                            refine OpsT.done ?_
                            have hI := hI.drop
                            have hI := hI.drop
                            have hI := hI.drop
                            have hI := hI.drop
                            have hI := hI.drop
                            have e := someS h1
                            subst e
                            exact Qn.thenJ fun a ha => ⟨false, rfl, ha.keep [8] (by kernel_rfl), hI⟩
                        · rw [if_neg hb90] at h1
                          have hb90 : y31 = false := by simpa using hb90
                          refine OpsT.keep [4, 13, 15, 17, 114] (S' := [(4, .pointer (some ⟨b1, 0, none⟩)), (13, .pointer (some ⟨b40, 0, none⟩)), (15, .pointer (some ⟨b54, 0, none⟩)), (17, .pointer (some ⟨b68, 0, none⟩)), (114, .bool false)]) (by (try simp only [hb90]); kernel_rfl) ?_
                          refine OpsT.pures (r := []) [17, 18, 19, 20, 21, 22, 23, 24, 25, 26, 27, 28, 29, 30, 31, 32, 33, 34, 35, 36, 37, 38, 39, 40, 41, 42, 43, 44, 45, 46, 47, 48, 49, 50, 51, 52] [8] (S' := [(8, .bool false)]) (by kernel_rfl) ?_
                          refine OpsT.done ?_
                          have hI := hI.drop
                          have hI := hI.drop
                          have hI := hI.drop
                          have hI := hI.drop
                          have hI := hI.drop
                          have e := someS h1
                          subst e
                          exact Qn.thenJ fun a ha => ⟨false, rfl, ha.keep [8] (by kernel_rfl), hI⟩
                      · rw [if_neg hb89] at h1
                        have hb89 : y17 = false := by simpa using hb89
                        refine OpsT.keep [4, 13, 15, 17, 110] (S' := [(4, .pointer (some ⟨b1, 0, none⟩)), (13, .pointer (some ⟨b40, 0, none⟩)), (15, .pointer (some ⟨b54, 0, none⟩)), (17, .pointer (some ⟨b68, 0, none⟩)), (110, .bool false)]) (by (try simp only [hb89]); kernel_rfl) ?_
                        refine OpsT.pures (r := []) [13, 14, 15, 16, 17, 18, 19, 20, 21, 22, 23, 24, 25, 26, 27, 28, 29, 30, 31, 32, 33, 34, 35, 36, 37, 38, 39, 40, 41, 42, 43, 44, 45, 46, 47, 48, 49, 50, 51, 52] [8] (S' := [(8, .bool false)]) (by kernel_rfl) ?_
                        refine OpsT.done ?_
                        have hI := hI.drop
                        have hI := hI.drop
                        have hI := hI.drop
                        have hI := hI.drop
                        have hI := hI.drop
                        have e := someS h1
                        subst e
                        exact Qn.thenJ fun a ha => ⟨false, rfl, ha.keep [8] (by kernel_rfl), hI⟩
                    · rw [if_neg hb88] at h1
                      have hb88 : (decide (y32 ≥ a0_Until)) = false := by simpa using hb88
                      refine OpsT.keep [4, 11, 13, 15, 17, 106] (S' := [(4, .pointer (some ⟨b1, 0, none⟩)), (11, .pointer (some ⟨b26, 0, none⟩)), (13, .pointer (some ⟨b40, 0, none⟩)), (15, .pointer (some ⟨b54, 0, none⟩)), (17, .pointer (some ⟨b68, 0, none⟩)), (106, .bool false)]) (by (try simp only [hb88]); kernel_rfl) ?_
                      refine OpsT.pures (r := []) [9, 10, 11, 12, 13, 14, 15, 16, 17, 18, 19, 20, 21, 22, 23, 24, 25, 26, 27, 28, 29, 30, 31, 32, 33, 34, 35, 36, 37, 38, 39, 40, 41, 42, 43, 44, 45, 46, 47, 48, 49, 50, 51, 52] [8] (S' := [(8, .bool false)]) (by kernel_rfl) ?_
                      refine OpsT.done ?_
                      have hI := hI.drop
                      have hI := hI.drop
                      have hI := hI.drop
                      have hI := hI.drop
                      have hI := hI.drop
                      have e := someS h1
                      subst e
                      exact Qn.thenJ fun a ha => ⟨false, rfl, ha.keep [8] (by kernel_rfl), hI⟩
                  · rw [if_neg hb87] at h1
                    have hb87 : y3 = false := by simpa using hb87
                    refine OpsT.keep [4, 11, 13, 15, 17, 99] (S' := [(4, .pointer (some ⟨b1, 0, none⟩)), (11, .pointer (some ⟨b26, 0, none⟩)), (13, .pointer (some ⟨b40, 0, none⟩)), (15, .pointer (some ⟨b54, 0, none⟩)), (17, .pointer (some ⟨b68, 0, none⟩)), (99, .bool false)]) (by (try simp only [hb87]); kernel_rfl) ?_
                    refine OpsT.pures (r := []) [2, 3, 4, 5, 6, 7, 8, 9, 10, 11, 12, 13, 14, 15, 16, 17, 18, 19, 20, 21, 22, 23, 24, 25, 26, 27, 28, 29, 30, 31, 32, 33, 34, 35, 36, 37, 38, 39, 40, 41, 42, 43, 44, 45, 46, 47, 48, 49, 50, 51, 52] [8] (S' := [(8, .bool false)]) (by kernel_rfl) ?_
                    refine OpsT.done ?_
                    have hI := hI.drop
                    have hI := hI.drop
                    have hI := hI.drop
                    have hI := hI.drop
                    have hI := hI.drop
                    have e := someS h1
                    subst e
                    exact Qn.thenJ fun a ha => ⟨false, rfl, ha.keep [8] (by kernel_rfl), hI⟩
                ·
                  rintro a w ⟨x86, rfl, ha, hI⟩
                  try dsimp only at h0
                  refine CodT.of ?_ ha
                  refine CodT.ret ?_
                  have e := someS h0
                  subst e
                  refine Qn.keep [8] (S' := [(8, .bool x86)]) (by kernel_rfl) ?_
                  exact post_ret (v := .bool x86) (fun a ha => RunRes.run (vs := [.bool x86]) (.tmp (t := 8) (by kernel_rfl) .nil) ha (by kernel_rfl)) ⟨rfl, hI.weaken (Hp.le_trans (Hp.le_trans (Hp.le_trans hle25 hle39) hle53) hle67)⟩
end Go.Cen
