/- The walk of the law FileTells, printed by a program of ours. -/
import Derived.Test.YthdoklobbcedcadDoorPx
import Derived.Test.YthdoklobbcedcadDoorWx3
set_option linter.unusedVariables false
set_option linter.unusedSimpArgs false
namespace Go.Cen
set_option maxRecDepth 100000 in
set_option maxHeartbeats 4000000 in
/-- cenotaph/cenotaphlaw08.FileTells -/
theorem c3 (w0 w : World) (Z : Hp) (A : HP) (hI : Inv w0 Z w A) (hT : Tabs Z) (a0_ID : Int) (a0_Name : ByteArray) (a0_Data : ByteArray) (a0_Sealed : Bool) (a0_Until : Int) (A_a0_Holds : Option Addr) (c_a0_Holds : Nat) (a0_Holds : (List ByteArray)) (hr_a0_Holds : RdS Z cS 1 A_a0_Holds c_a0_Holds a0_Holds) (a1_ID : Int) (a1_Name : ByteArray) (a1_Data : ByteArray) (a1_Sealed : Bool) (a1_Until : Int) (A_a1_Holds : Option Addr) (c_a1_Holds : Nat) (a1_Holds : (List ByteArray)) (hr_a1_Holds : RdS Z cS 1 A_a1_Holds c_a1_Holds a1_Holds) (a2 : Int) (a3 : Int) (a4 : ByteArray) (r : Bool) (h0 : law08_FileTells a0_ID a0_Name a0_Data a0_Sealed a0_Until a0_Holds a1_ID a1_Name a1_Data a1_Sealed a1_Until a1_Holds a2 a3 a4 = some r) :
    Calls prog 3 #[.agg ((([.int .i64 a0_ID, .string a0_Name, .string a0_Data, .bool a0_Sealed, .int .i64 a0_Until, .slice A_a0_Holds a0_Holds.length c_a0_Holds] : List Value))).toArray, .agg ((([.int .i64 a1_ID, .string a1_Name, .string a1_Data, .bool a1_Sealed, .int .i64 a1_Until, .slice A_a1_Holds a1_Holds.length c_a1_Holds] : List Value))).toArray, .int .i64 a2, .int .i64 a3, .string a4] w (fun e w' => e = .returned (.bool r) ∧ Inv w0 Z w' A) := by
  have e4 := calls_intro (R := (fun e w' => e = .returned (.bool r) ∧ Inv w0 Z w' A)) (w := w) (args := [.agg ((([.int .i64 a0_ID, .string a0_Name, .string a0_Data, .bool a0_Sealed, .int .i64 a0_Until, .slice A_a0_Holds a0_Holds.length c_a0_Holds] : List Value))).toArray, .agg ((([.int .i64 a1_ID, .string a1_Name, .string a1_Data, .bool a1_Sealed, .int .i64 a1_Until, .slice A_a1_Holds a1_Holds.length c_a1_Holds] : List Value))).toArray, .int .i64 a2, .int .i64 a3, .string a4]) (fn := Go.Proofs.Tryd.f3) 112 Go.Proofs.Tryd.func3 (by rfl) Go.Proofs.Tryd.ntmps3 (by kernel_rfl)
  refine e4 ?_
  clear e4
  unfold law08_FileTells at h0
  refine CodT.seq ?_
  refine CodT.regionL [0, 1, 2] (by kernel_rfl) ?_
  refine OpsT.cons (Does.boxL (d := 5) (T := 24) (v := .agg ((([.int .i64 a0_ID, .string a0_Name, .string a0_Data, .bool a0_Sealed, .int .i64 a0_Until, .slice A_a0_Holds a0_Holds.length c_a0_Holds] : List Value))).toArray) ((([.int .i64 a0_ID, .string a0_Name, .string a0_Data, .bool a0_Sealed, .int .i64 a0_Until, .slice A_a0_Holds a0_Holds.length c_a0_Holds] : List Value))) (by kernel_rfl) hI (by kernel_rfl) ?_)
  intro b1 w hI
  refine OpsT.cons (Does.boxL (d := 6) (T := 24) (v := .agg ((([.int .i64 a1_ID, .string a1_Name, .string a1_Data, .bool a1_Sealed, .int .i64 a1_Until, .slice A_a1_Holds a1_Holds.length c_a1_Holds] : List Value))).toArray) ((([.int .i64 a1_ID, .string a1_Name, .string a1_Data, .bool a1_Sealed, .int .i64 a1_Until, .slice A_a1_Holds a1_Holds.length c_a1_Holds] : List Value))) (by kernel_rfl) hI (by kernel_rfl) ?_)
  intro b2 w hI
  refine OpsT.pures (r := []) [2] [2, 3, 4, 5, 6] (S' := [(2, .int .i64 a2), (3, .int .i64 a3), (4, .string a4), (5, .pointer (some ⟨b1, 0, none⟩)), (6, .pointer (some ⟨b2, 0, none⟩))]) (by kernel_rfl) ?_
  refine OpsT.done ?_
  refine Qn.then ?_
  refine CodT.seq ?_
  refine CodT.regionL [0, 1] (by kernel_rfl) ?_
  obtain ⟨y4, hc3, h0⟩ := bindS h0
  try dsimp only at h0
  refine OpsT.cons (Does.call (d := some 23) (n := 9) (vs := []) (by kernel_rfl) en9 (c9 w0 w _ _ hI hT _ hc3) ?_)
  rintro e w ⟨rfl, hI⟩
  refine ⟨_, rfl, ?_⟩
  refine OpsT.pures (r := []) [1] [2, 3, 4, 5, 6, 11] (S' := [(2, .int .i64 a2), (3, .int .i64 a3), (4, .string a4), (5, .pointer (some ⟨b1, 0, none⟩)), (6, .pointer (some ⟨b2, 0, none⟩)), (11, .bool y4)]) (by kernel_rfl) ?_
  refine OpsT.done ?_
  refine Qn.then ?_
  refine CodT.seq ?_
  refine CodT.seq ?_
  refine CodT.regionL [0, 1] (by kernel_rfl) ?_
  refine OpsT.pures (r := []) [0, 1] [2, 3, 4, 5, 6, 11, 25] (S' := [(2, .int .i64 a2), (3, .int .i64 a3), (4, .string a4), (5, .pointer (some ⟨b1, 0, none⟩)), (6, .pointer (some ⟨b2, 0, none⟩)), (11, .bool y4), (25, .bool (!y4))]) (by kernel_rfl) ?_
  refine OpsT.done ?_
  refine Qn.then ?_
  by_cases hb5 : (!y4) = true
  · rw [if_pos hb5] at h0
    refine CodT.yes' (b := !y4) (by kernel_rfl) hb5 ?_
    refine CodT.seq ?_
    refine CodT.regionL [0] (by kernel_rfl) ?_
    refine OpsT.pures (r := []) [0] [10] (S' := [(10, .bool false)]) (by kernel_rfl) ?_
    refine OpsT.done ?_
    refine Qn.then ?_
    refine CodT.ret ?_
    refine Qn.ret_then ?_
    have hI := hI.drop
    have hI := hI.drop
    have e := someS h0
    subst e
    refine Qn.keep [10] (S' := [(10, .bool false)]) (by kernel_rfl) ?_
    exact post_ret (v := .bool false) (fun a ha => RunRes.run (vs := [.bool false]) (.tmp (t := 10) (by kernel_rfl) .nil) ha (by kernel_rfl)) ⟨rfl, hI⟩
  · rw [if_neg hb5] at h0
    refine CodT.no' (b := !y4) (by kernel_rfl) (by simpa using hb5) ?_
    refine CodT.skip ?_
    refine Qn.then ?_
    obtain ⟨r1, h1, h0⟩ := bindS h0
    refine CodT.meet (fun a w => ∃ (x6 : Bool), x6 = r1 ∧ Fr 112 [(2, .int .i64 a2), (3, .int .i64 a3), (4, .string a4), (5, .pointer (some ⟨b1, 0, none⟩)), (6, .pointer (some ⟨b2, 0, none⟩)), (11, .bool y4), (12, .bool x6)] a ∧ Inv w0 Z w (star (pt b2 (.cells ((([.int .i64 a1_ID, .string a1_Name, .string a1_Data, .bool a1_Sealed, .int .i64 a1_Until, .slice A_a1_Holds a1_Holds.length c_a1_Holds] : List Value))).toArray 24 (0, 0))) (star (pt b1 (.cells ((([.int .i64 a0_ID, .string a0_Name, .string a0_Data, .bool a0_Sealed, .int .i64 a0_Until, .slice A_a0_Holds a0_Holds.length c_a0_Holds] : List Value))).toArray 24 (0, 0))) A))) ?_ ?_
    ·
      refine CodT.regionL [0, 1, 2, 3, 4, 5, 6] (by kernel_rfl) ?_
      refine OpsT.cons (Does.yi (Yl.load (d := 26) (T := 24) (v := .agg ((([.int .i64 a0_ID, .string a0_Name, .string a0_Data, .bool a0_Sealed, .int .i64 a0_Until, .slice A_a0_Holds a0_Holds.length c_a0_Holds] : List Value))).toArray) (by kernel_rfl) (ldBN ty24 (l := (([.int .i64 a0_ID, .string a0_Name, .string a0_Data, .bool a0_Sealed, .int .i64 a0_Until, .slice A_a0_Holds a0_Holds.length c_a0_Holds] : List Value))) (o := 0) (cs := (([.int .i64 a0_ID, .string a0_Name, .string a0_Data, .bool a0_Sealed, .int .i64 a0_Until, .slice A_a0_Holds a0_Holds.length c_a0_Holds] : List Value))) (pick2 _ _ _) (by kernel_rfl) (whole _ _ (by kernel_rfl)))) hI ?_)
      obtain ⟨y8, hc7, h1⟩ := bindS h1
      try dsimp only at h1
      refine OpsT.cons (Does.call (d := some 27) (n := 10) (vs := [.agg ((([.int .i64 a0_ID, .string a0_Name, .string a0_Data, .bool a0_Sealed, .int .i64 a0_Until, .slice A_a0_Holds a0_Holds.length c_a0_Holds] : List Value))).toArray]) (by kernel_rfl) en10 (c10 w0 w _ _ hI hT a0_ID a0_Name a0_Data a0_Sealed a0_Until A_a0_Holds c_a0_Holds a0_Holds hr_a0_Holds _ hc7) ?_)
      rintro e w ⟨rfl, hI⟩
      refine ⟨_, rfl, ?_⟩
      refine OpsT.pures (r := [3, 4, 5, 6]) [2] [2, 3, 4, 5, 6, 11, 28] (S' := [(2, .int .i64 a2), (3, .int .i64 a3), (4, .string a4), (5, .pointer (some ⟨b1, 0, none⟩)), (6, .pointer (some ⟨b2, 0, none⟩)), (11, .bool y4), (28, .bool y8)]) (by kernel_rfl) ?_
      by_cases hb9 : y8 = true
      · rw [if_pos hb9] at h1
        refine OpsT.keep [2, 3, 4, 5, 6, 11, 28] (S' := [(2, .int .i64 a2), (3, .int .i64 a3), (4, .string a4), (5, .pointer (some ⟨b1, 0, none⟩)), (6, .pointer (some ⟨b2, 0, none⟩)), (11, .bool y4), (28, .bool true)]) (by (try simp only [hb9]); kernel_rfl) ?_
        refine OpsT.cons (Does.yi (Yl.load (d := 29) (T := 24) (v := .agg ((([.int .i64 a1_ID, .string a1_Name, .string a1_Data, .bool a1_Sealed, .int .i64 a1_Until, .slice A_a1_Holds a1_Holds.length c_a1_Holds] : List Value))).toArray) (by kernel_rfl) (ldBN ty24 (l := (([.int .i64 a1_ID, .string a1_Name, .string a1_Data, .bool a1_Sealed, .int .i64 a1_Until, .slice A_a1_Holds a1_Holds.length c_a1_Holds] : List Value))) (o := 0) (cs := (([.int .i64 a1_ID, .string a1_Name, .string a1_Data, .bool a1_Sealed, .int .i64 a1_Until, .slice A_a1_Holds a1_Holds.length c_a1_Holds] : List Value))) (ent_refl _) (by kernel_rfl) (whole _ _ (by kernel_rfl)))) hI ?_)
        obtain ⟨y11, hc10, h1⟩ := bindS h1
        try dsimp only at h1
        refine OpsT.cons (Does.call (d := some 30) (n := 10) (vs := [.agg ((([.int .i64 a1_ID, .string a1_Name, .string a1_Data, .bool a1_Sealed, .int .i64 a1_Until, .slice A_a1_Holds a1_Holds.length c_a1_Holds] : List Value))).toArray]) (by kernel_rfl) en10 (c10 w0 w _ _ hI hT a1_ID a1_Name a1_Data a1_Sealed a1_Until A_a1_Holds c_a1_Holds a1_Holds hr_a1_Holds _ hc10) ?_)
        rintro e w ⟨rfl, hI⟩
        refine ⟨_, rfl, ?_⟩
        refine OpsT.pures (r := []) [5, 6] [2, 3, 4, 5, 6, 11, 12] (S' := [(2, .int .i64 a2), (3, .int .i64 a3), (4, .string a4), (5, .pointer (some ⟨b1, 0, none⟩)), (6, .pointer (some ⟨b2, 0, none⟩)), (11, .bool y4), (12, .bool y11)]) (by kernel_rfl) ?_
        refine OpsT.done ?_
        have e := someS h1
        subst e
        exact Qn.thenJ fun a ha => ⟨y11, rfl, ha.keep [2, 3, 4, 5, 6, 11, 12] (by kernel_rfl), hI⟩
      · rw [if_neg hb9] at h1
        have hb9 : y8 = false := by simpa using hb9
        refine OpsT.keep [2, 3, 4, 5, 6, 11, 28] (S' := [(2, .int .i64 a2), (3, .int .i64 a3), (4, .string a4), (5, .pointer (some ⟨b1, 0, none⟩)), (6, .pointer (some ⟨b2, 0, none⟩)), (11, .bool y4), (28, .bool false)]) (by (try simp only [hb9]); kernel_rfl) ?_
        refine OpsT.pures (r := []) [3, 4, 5, 6] [2, 3, 4, 5, 6, 11, 12] (S' := [(2, .int .i64 a2), (3, .int .i64 a3), (4, .string a4), (5, .pointer (some ⟨b1, 0, none⟩)), (6, .pointer (some ⟨b2, 0, none⟩)), (11, .bool y4), (12, .bool false)]) (by kernel_rfl) ?_
        refine OpsT.done ?_
        have e := someS h1
        subst e
        exact Qn.thenJ fun a ha => ⟨false, rfl, ha.keep [2, 3, 4, 5, 6, 11, 12] (by kernel_rfl), hI⟩
    ·
      rintro a w ⟨x6, rfl, ha, hI⟩
      try dsimp only at h0
      refine CodT.of ?_ ha
      refine CodT.seq ?_
      obtain ⟨r1, h1, h0⟩ := bindS h0
      refine CodT.meet (fun a w => ∃ (x12 : Bool), x12 = r1 ∧ Fr 112 [(2, .int .i64 a2), (3, .int .i64 a3), (4, .string a4), (5, .pointer (some ⟨b1, 0, none⟩)), (6, .pointer (some ⟨b2, 0, none⟩)), (11, .bool y4), (38, .bool x12)] a ∧ Inv w0 Z w (star (pt b2 (.cells ((([.int .i64 a1_ID, .string a1_Name, .string a1_Data, .bool a1_Sealed, .int .i64 a1_Until, .slice A_a1_Holds a1_Holds.length c_a1_Holds] : List Value))).toArray 24 (0, 0))) (star (pt b1 (.cells ((([.int .i64 a0_ID, .string a0_Name, .string a0_Data, .bool a0_Sealed, .int .i64 a0_Until, .slice A_a0_Holds a0_Holds.length c_a0_Holds] : List Value))).toArray 24 (0, 0))) A))) ?_ ?_
      ·
        refine CodT.regionL [0, 1, 2, 3, 4, 5, 6] (by kernel_rfl) ?_
        refine OpsT.pures (r := [3, 4, 5, 6]) [0, 1, 2] [2, 3, 4, 5, 6, 11, 34] (S' := [(2, .int .i64 a2), (3, .int .i64 a3), (4, .string a4), (5, .pointer (some ⟨b1, 0, none⟩)), (6, .pointer (some ⟨b2, 0, none⟩)), (11, .bool y4), (34, .bool (!x6))]) (by kernel_rfl) ?_
        by_cases hb13 : (!x6) = true
        · rw [if_pos hb13] at h1
          refine OpsT.keep [2, 3, 4, 5, 6, 11, 34] (S' := [(2, .int .i64 a2), (3, .int .i64 a3), (4, .string a4), (5, .pointer (some ⟨b1, 0, none⟩)), (6, .pointer (some ⟨b2, 0, none⟩)), (11, .bool y4), (34, .bool true)]) (by (try simp only [hb13]); kernel_rfl) ?_
          refine OpsT.pures (r := []) [3, 4, 5, 6] [2, 3, 4, 5, 6, 11, 38] (S' := [(2, .int .i64 a2), (3, .int .i64 a3), (4, .string a4), (5, .pointer (some ⟨b1, 0, none⟩)), (6, .pointer (some ⟨b2, 0, none⟩)), (11, .bool y4), (38, .bool true)]) (by kernel_rfl) ?_
          refine OpsT.done ?_
          have e := someS h1
          subst e
          exact Qn.thenJ fun a ha => ⟨true, rfl, ha.keep [2, 3, 4, 5, 6, 11, 38] (by kernel_rfl), hI⟩
        · rw [if_neg hb13] at h1
          have hb13 : (!x6) = false := by simpa using hb13
          refine OpsT.keep [2, 3, 4, 5, 6, 11, 34] (S' := [(2, .int .i64 a2), (3, .int .i64 a3), (4, .string a4), (5, .pointer (some ⟨b1, 0, none⟩)), (6, .pointer (some ⟨b2, 0, none⟩)), (11, .bool y4), (34, .bool false)]) (by (try simp only [hb13]); kernel_rfl) ?_
          refine OpsT.pures (r := []) [3, 4, 5, 6] [2, 3, 4, 5, 6, 11, 38] (S' := [(2, .int .i64 a2), (3, .int .i64 a3), (4, .string a4), (5, .pointer (some ⟨b1, 0, none⟩)), (6, .pointer (some ⟨b2, 0, none⟩)), (11, .bool y4), (38, .bool (decide ((a4.size : Int) > 700)))]) (by kernel_rfl) ?_
          refine OpsT.done ?_
          have e := someS h1
          subst e
          exact Qn.thenJ fun a ha => ⟨decide ((a4.size : Int) > 700), rfl, ha.keep [2, 3, 4, 5, 6, 11, 38] (by kernel_rfl), hI⟩
      ·
        rintro a w ⟨x12, rfl, ha, hI⟩
        try dsimp only at h0
        refine CodT.of ?_ ha
        by_cases hb14 : x12 = true
        · rw [if_pos hb14] at h0
          refine CodT.yes' (b := x12) (by kernel_rfl) hb14 ?_
          refine CodT.seq ?_
          refine CodT.regionL [0, 1] (by kernel_rfl) ?_
          refine OpsT.pures (r := []) [0, 1] [10] (S' := [(10, .bool y4)]) (by kernel_rfl) ?_
          refine OpsT.done ?_
          refine Qn.then ?_
          refine CodT.ret ?_
          refine Qn.ret_then ?_
          have hI := hI.drop
          have hI := hI.drop
          have e := someS h0
          subst e
          refine Qn.keep [10] (S' := [(10, .bool y4)]) (by kernel_rfl) ?_
          exact post_ret (v := .bool y4) (fun a ha => RunRes.run (vs := [.bool y4]) (.tmp (t := 10) (by kernel_rfl) .nil) ha (by kernel_rfl)) ⟨rfl, hI⟩
        · rw [if_neg hb14] at h0
          refine CodT.no' (b := x12) (by kernel_rfl) (by simpa using hb14) ?_
          refine CodT.skip ?_
          refine Qn.then ?_
          refine CodT.seq ?_
          refine CodT.regionL [0, 1, 2, 3, 4, 5, 6, 7, 8] (by kernel_rfl) ?_
          refine OpsT.cons (Does.yi (Yl.load (d := 41) (T := 24) (v := .agg ((([.int .i64 a0_ID, .string a0_Name, .string a0_Data, .bool a0_Sealed, .int .i64 a0_Until, .slice A_a0_Holds a0_Holds.length c_a0_Holds] : List Value))).toArray) (by kernel_rfl) (ldBN ty24 (l := (([.int .i64 a0_ID, .string a0_Name, .string a0_Data, .bool a0_Sealed, .int .i64 a0_Until, .slice A_a0_Holds a0_Holds.length c_a0_Holds] : List Value))) (o := 0) (cs := (([.int .i64 a0_ID, .string a0_Name, .string a0_Data, .bool a0_Sealed, .int .i64 a0_Until, .slice A_a0_Holds a0_Holds.length c_a0_Holds] : List Value))) (pick2 _ _ _) (by kernel_rfl) (whole _ _ (by kernel_rfl)))) hI ?_)
          refine OpsT.pures (r := [3, 4, 5, 6, 7, 8]) [1, 2] [2, 3, 4, 5, 6, 11, 41, 42, 43] (S' := [(2, .int .i64 a2), (3, .int .i64 a3), (4, .string a4), (5, .pointer (some ⟨b1, 0, none⟩)), (6, .pointer (some ⟨b2, 0, none⟩)), (11, .bool y4), (41, .agg ((([.int .i64 a0_ID, .string a0_Name, .string a0_Data, .bool a0_Sealed, .int .i64 a0_Until, .slice A_a0_Holds a0_Holds.length c_a0_Holds] : List Value))).toArray), (42, .int .i64 a2), (43, .int .i64 a3)]) (by kernel_rfl) ?_
          obtain ⟨⟨y16, y17⟩, hc15, h0⟩ := bindS h0
          try dsimp only at h0
          refine OpsT.cons (Does.call (d := some 44) (n := 11) (vs := [.agg ((([.int .i64 a0_ID, .string a0_Name, .string a0_Data, .bool a0_Sealed, .int .i64 a0_Until, .slice A_a0_Holds a0_Holds.length c_a0_Holds] : List Value))).toArray, .int .i64 a2, .int .i64 a3]) (by kernel_rfl) en11 (c11 w0 w _ _ hI hT a0_ID a0_Name a0_Data a0_Sealed a0_Until A_a0_Holds c_a0_Holds a0_Holds hr_a0_Holds a2 a3 _ hc15) ?_)
          rintro e w ⟨rfl, hI⟩
          refine ⟨_, rfl, ?_⟩
          refine OpsT.pures (r := []) [4, 5, 6, 7, 8] [2, 3, 4, 5, 6, 11, 13, 14] (S' := [(2, .int .i64 a2), (3, .int .i64 a3), (4, .string a4), (5, .pointer (some ⟨b1, 0, none⟩)), (6, .pointer (some ⟨b2, 0, none⟩)), (11, .bool y4), (13, .string y16), (14, .int .i64 y17)]) (by kernel_rfl) ?_
          refine OpsT.done ?_
          refine Qn.then ?_
          refine CodT.seq ?_
          refine CodT.regionL [0, 1, 2, 3, 4, 5, 6, 7, 8] (by kernel_rfl) ?_
          refine OpsT.cons (Does.yi (Yl.load (d := 48) (T := 24) (v := .agg ((([.int .i64 a0_ID, .string a0_Name, .string a0_Data, .bool a0_Sealed, .int .i64 a0_Until, .slice A_a0_Holds a0_Holds.length c_a0_Holds] : List Value))).toArray) (by kernel_rfl) (ldBN ty24 (l := (([.int .i64 a0_ID, .string a0_Name, .string a0_Data, .bool a0_Sealed, .int .i64 a0_Until, .slice A_a0_Holds a0_Holds.length c_a0_Holds] : List Value))) (o := 0) (cs := (([.int .i64 a0_ID, .string a0_Name, .string a0_Data, .bool a0_Sealed, .int .i64 a0_Until, .slice A_a0_Holds a0_Holds.length c_a0_Holds] : List Value))) (pick2 _ _ _) (by kernel_rfl) (whole _ _ (by kernel_rfl)))) hI ?_)
          refine OpsT.pures (r := [3, 4, 5, 6, 7, 8]) [1, 2] [2, 4, 5, 6, 11, 13, 14, 48, 49, 50] (S' := [(2, .int .i64 a2), (4, .string a4), (5, .pointer (some ⟨b1, 0, none⟩)), (6, .pointer (some ⟨b2, 0, none⟩)), (11, .bool y4), (13, .string y16), (14, .int .i64 y17), (48, .agg ((([.int .i64 a0_ID, .string a0_Name, .string a0_Data, .bool a0_Sealed, .int .i64 a0_Until, .slice A_a0_Holds a0_Holds.length c_a0_Holds] : List Value))).toArray), (49, .int .i64 a2), (50, .int .i64 a3)]) (by kernel_rfl) ?_
          obtain ⟨⟨y19, y20⟩, hc18, h0⟩ := bindS h0
          try dsimp only at h0
          refine OpsT.cons (Does.call (d := some 51) (n := 12) (vs := [.agg ((([.int .i64 a0_ID, .string a0_Name, .string a0_Data, .bool a0_Sealed, .int .i64 a0_Until, .slice A_a0_Holds a0_Holds.length c_a0_Holds] : List Value))).toArray, .int .i64 a2, .int .i64 a3]) (by kernel_rfl) en12 (c12 w0 w _ _ hI hT a0_ID a0_Name a0_Data a0_Sealed a0_Until A_a0_Holds c_a0_Holds a0_Holds hr_a0_Holds a2 a3 _ hc18) ?_)
          rintro e w ⟨rfl, hI⟩
          refine ⟨_, rfl, ?_⟩
          refine OpsT.pures (r := []) [4, 5, 6, 7, 8] [2, 4, 5, 6, 11, 13, 14, 15, 16] (S' := [(2, .int .i64 a2), (4, .string a4), (5, .pointer (some ⟨b1, 0, none⟩)), (6, .pointer (some ⟨b2, 0, none⟩)), (11, .bool y4), (13, .string y16), (14, .int .i64 y17), (15, .string y19), (16, .int .i64 y20)]) (by kernel_rfl) ?_
          refine OpsT.done ?_
          refine Qn.then ?_
          refine CodT.seq ?_
          refine CodT.regionL [0, 1, 2, 3, 4, 5, 6, 7, 8] (by kernel_rfl) ?_
          refine OpsT.pures (r := [2, 3, 4, 5, 6, 7, 8]) [0, 1] [2, 4, 5, 6, 11, 13, 14, 15, 16, 55, 56] (S' := [(2, .int .i64 a2), (4, .string a4), (5, .pointer (some ⟨b1, 0, none⟩)), (6, .pointer (some ⟨b2, 0, none⟩)), (11, .bool y4), (13, .string y16), (14, .int .i64 y17), (15, .string y19), (16, .int .i64 y20), (55, .int .i64 a2), (56, .string a4)]) (by kernel_rfl) ?_
          obtain ⟨⟨y22, y23, y24, y25, y26, y27, y30⟩, hc21, h0⟩ := bindS h0
          try dsimp only at h0
          refine OpsT.cons (Does.call (d := some 57) (n := 13) (vs := [.int .i64 a2, .string a4]) (by kernel_rfl) en13 (c13 w0 w _ _ hI hT a2 a4 _ hc21) ?_)
          rintro e w ⟨A28, cp29, rfl, hI⟩
          refine ⟨_, rfl, ?_⟩
          refine OpsT.pures (r := [6, 7, 8]) [3, 4, 5] [2, 4, 5, 6, 11, 13, 14, 15, 16, 58, 59] (S' := [(2, .int .i64 a2), (4, .string a4), (5, .pointer (some ⟨b1, 0, none⟩)), (6, .pointer (some ⟨b2, 0, none⟩)), (11, .bool y4), (13, .string y16), (14, .int .i64 y17), (15, .string y19), (16, .int .i64 y20), (58, .agg ((([.int .i64 y22, .string y23, .string y24, .bool y25, .int .i64 y26, .slice A28 y27.length cp29] : List Value))).toArray), (59, .int .i64 y30)]) (by kernel_rfl) ?_
          refine OpsT.cons (Does.allocL (d := 17) (T := 24) ((([.int .i64 0, .string (⟨#[]⟩ : ByteArray), .string (⟨#[]⟩ : ByteArray), .bool false, .int .i64 0, .slice none 0 0] : List Value))) (by kernel_rfl) ty24 hI (by kernel_rfl) ?_)
          intro b31 w hI
          refine OpsT.cons (Does.storeLit (T := 24) (b := b31) (o := 0) (v := .agg ((([.int .i64 y22, .string y23, .string y24, .bool y25, .int .i64 y26, .slice A28 y27.length cp29] : List Value))).toArray) (l := (([.int .i64 0, .string (⟨#[]⟩ : ByteArray), .string (⟨#[]⟩ : ByteArray), .bool false, .int .i64 0, .slice none 0 0] : List Value))) (vs := (([.int .i64 y22, .string y23, .string y24, .bool y25, .int .i64 y26, .slice A28 y27.length cp29] : List Value))) (L' := (([.int .i64 y22, .string y23, .string y24, .bool y25, .int .i64 y26, .slice A28 y27.length cp29] : List Value))) (by kernel_rfl) ty24 hI (by kernel_rfl) (by kernel_rfl) (by kernel_rfl) (by kernel_rfl) (by kernel_rfl) ?_)
          intro w hI
          refine OpsT.pures (r := []) [8] [2, 4, 5, 6, 11, 13, 14, 15, 16, 17, 18] (S' := [(2, .int .i64 a2), (4, .string a4), (5, .pointer (some ⟨b1, 0, none⟩)), (6, .pointer (some ⟨b2, 0, none⟩)), (11, .bool y4), (13, .string y16), (14, .int .i64 y17), (15, .string y19), (16, .int .i64 y20), (17, .pointer (some ⟨b31, 0, none⟩)), (18, .int .i64 y30)]) (by kernel_rfl) ?_
          refine OpsT.done ?_
          refine Qn.then ?_
          refine CodT.seq ?_
          refine CodT.regionL [0, 1, 2, 3, 4, 5, 6, 7, 8] (by kernel_rfl) ?_
          refine OpsT.pures (r := [2, 3, 4, 5, 6, 7, 8]) [0, 1] [5, 6, 11, 13, 14, 15, 16, 17, 18, 61, 62] (S' := [(5, .pointer (some ⟨b1, 0, none⟩)), (6, .pointer (some ⟨b2, 0, none⟩)), (11, .bool y4), (13, .string y16), (14, .int .i64 y17), (15, .string y19), (16, .int .i64 y20), (17, .pointer (some ⟨b31, 0, none⟩)), (18, .int .i64 y30), (61, .int .i64 a2), (62, .string a4)]) (by kernel_rfl) ?_
          obtain ⟨⟨y33, y34, y35, y36, y37, y38, y41⟩, hc32, h0⟩ := bindS h0
          try dsimp only at h0
          refine OpsT.cons (Does.call (d := some 63) (n := 14) (vs := [.int .i64 a2, .string a4]) (by kernel_rfl) en14 (c14 w0 w _ _ hI hT a2 a4 _ hc32) ?_)
          rintro e w ⟨A39, cp40, rfl, hI⟩
          refine ⟨_, rfl, ?_⟩
          refine OpsT.pures (r := [6, 7, 8]) [3, 4, 5] [5, 6, 11, 13, 14, 15, 16, 17, 18, 64, 65] (S' := [(5, .pointer (some ⟨b1, 0, none⟩)), (6, .pointer (some ⟨b2, 0, none⟩)), (11, .bool y4), (13, .string y16), (14, .int .i64 y17), (15, .string y19), (16, .int .i64 y20), (17, .pointer (some ⟨b31, 0, none⟩)), (18, .int .i64 y30), (64, .agg ((([.int .i64 y33, .string y34, .string y35, .bool y36, .int .i64 y37, .slice A39 y38.length cp40] : List Value))).toArray), (65, .int .i64 y41)]) (by kernel_rfl) ?_
          refine OpsT.cons (Does.allocL (d := 19) (T := 24) ((([.int .i64 0, .string (⟨#[]⟩ : ByteArray), .string (⟨#[]⟩ : ByteArray), .bool false, .int .i64 0, .slice none 0 0] : List Value))) (by kernel_rfl) ty24 hI (by kernel_rfl) ?_)
          intro b42 w hI
          refine OpsT.cons (Does.storeLit (T := 24) (b := b42) (o := 0) (v := .agg ((([.int .i64 y33, .string y34, .string y35, .bool y36, .int .i64 y37, .slice A39 y38.length cp40] : List Value))).toArray) (l := (([.int .i64 0, .string (⟨#[]⟩ : ByteArray), .string (⟨#[]⟩ : ByteArray), .bool false, .int .i64 0, .slice none 0 0] : List Value))) (vs := (([.int .i64 y33, .string y34, .string y35, .bool y36, .int .i64 y37, .slice A39 y38.length cp40] : List Value))) (L' := (([.int .i64 y33, .string y34, .string y35, .bool y36, .int .i64 y37, .slice A39 y38.length cp40] : List Value))) (by kernel_rfl) ty24 hI (by kernel_rfl) (by kernel_rfl) (by kernel_rfl) (by kernel_rfl) (by kernel_rfl) ?_)
          intro w hI
          refine OpsT.pures (r := []) [8] [5, 6, 11, 13, 14, 15, 16, 17, 18, 19, 20] (S' := [(5, .pointer (some ⟨b1, 0, none⟩)), (6, .pointer (some ⟨b2, 0, none⟩)), (11, .bool y4), (13, .string y16), (14, .int .i64 y17), (15, .string y19), (16, .int .i64 y20), (17, .pointer (some ⟨b31, 0, none⟩)), (18, .int .i64 y30), (19, .pointer (some ⟨b42, 0, none⟩)), (20, .int .i64 y41)]) (by kernel_rfl) ?_
          refine OpsT.done ?_
          refine Qn.then ?_
          refine CodT.seq ?_
          refine CodT.regionL [0, 1, 2] (by kernel_rfl) ?_
          refine OpsT.cons (Does.yi (Yl.load (d := 66) (T := 24) (v := .agg ((([.int .i64 a0_ID, .string a0_Name, .string a0_Data, .bool a0_Sealed, .int .i64 a0_Until, .slice A_a0_Holds a0_Holds.length c_a0_Holds] : List Value))).toArray) (by kernel_rfl) (ldBN ty24 (l := (([.int .i64 a0_ID, .string a0_Name, .string a0_Data, .bool a0_Sealed, .int .i64 a0_Until, .slice A_a0_Holds a0_Holds.length c_a0_Holds] : List Value))) (o := 0) (cs := (([.int .i64 a0_ID, .string a0_Name, .string a0_Data, .bool a0_Sealed, .int .i64 a0_Until, .slice A_a0_Holds a0_Holds.length c_a0_Holds] : List Value))) (pick6 _ _ _ _ _ _ _) (by kernel_rfl) (whole _ _ (by kernel_rfl)))) hI ?_)
          obtain ⟨y44, hc43, h0⟩ := bindS h0
          try dsimp only at h0
          refine OpsT.cons (Does.call (d := some 67) (n := 15) (vs := [.agg ((([.int .i64 a0_ID, .string a0_Name, .string a0_Data, .bool a0_Sealed, .int .i64 a0_Until, .slice A_a0_Holds a0_Holds.length c_a0_Holds] : List Value))).toArray]) (by kernel_rfl) en15 (c15 w0 w _ _ hI hT a0_ID a0_Name a0_Data a0_Sealed a0_Until A_a0_Holds c_a0_Holds a0_Holds hr_a0_Holds _ hc43) ?_)
          rintro e w ⟨rfl, hI⟩
          refine ⟨_, rfl, ?_⟩
          refine OpsT.pures (r := []) [2] [5, 6, 11, 13, 14, 15, 16, 17, 18, 19, 20, 21] (S' := [(5, .pointer (some ⟨b1, 0, none⟩)), (6, .pointer (some ⟨b2, 0, none⟩)), (11, .bool y4), (13, .string y16), (14, .int .i64 y17), (15, .string y19), (16, .int .i64 y20), (17, .pointer (some ⟨b31, 0, none⟩)), (18, .int .i64 y30), (19, .pointer (some ⟨b42, 0, none⟩)), (20, .int .i64 y41), (21, .bool y44)]) (by kernel_rfl) ?_
          refine OpsT.done ?_
          refine Qn.then ?_
          refine CodT.seq ?_
          refine CodT.regionL [0, 1, 2] (by kernel_rfl) ?_
          refine OpsT.cons (Does.yi (Yl.load (d := 68) (T := 24) (v := .agg ((([.int .i64 a0_ID, .string a0_Name, .string a0_Data, .bool a0_Sealed, .int .i64 a0_Until, .slice A_a0_Holds a0_Holds.length c_a0_Holds] : List Value))).toArray) (by kernel_rfl) (ldBN ty24 (l := (([.int .i64 a0_ID, .string a0_Name, .string a0_Data, .bool a0_Sealed, .int .i64 a0_Until, .slice A_a0_Holds a0_Holds.length c_a0_Holds] : List Value))) (o := 0) (cs := (([.int .i64 a0_ID, .string a0_Name, .string a0_Data, .bool a0_Sealed, .int .i64 a0_Until, .slice A_a0_Holds a0_Holds.length c_a0_Holds] : List Value))) (pick6 _ _ _ _ _ _ _) (by kernel_rfl) (whole _ _ (by kernel_rfl)))) hI ?_)
          refine OpsT.cons (Does.allocL (d := 22) (T := 24) ((([.int .i64 0, .string (⟨#[]⟩ : ByteArray), .string (⟨#[]⟩ : ByteArray), .bool false, .int .i64 0, .slice none 0 0] : List Value))) (by kernel_rfl) ty24 hI (by kernel_rfl) ?_)
          intro b45 w hI
          refine OpsT.cons (Does.storeLit (T := 24) (b := b45) (o := 0) (v := .agg ((([.int .i64 a0_ID, .string a0_Name, .string a0_Data, .bool a0_Sealed, .int .i64 a0_Until, .slice A_a0_Holds a0_Holds.length c_a0_Holds] : List Value))).toArray) (l := (([.int .i64 0, .string (⟨#[]⟩ : ByteArray), .string (⟨#[]⟩ : ByteArray), .bool false, .int .i64 0, .slice none 0 0] : List Value))) (vs := (([.int .i64 a0_ID, .string a0_Name, .string a0_Data, .bool a0_Sealed, .int .i64 a0_Until, .slice A_a0_Holds a0_Holds.length c_a0_Holds] : List Value))) (L' := (([.int .i64 a0_ID, .string a0_Name, .string a0_Data, .bool a0_Sealed, .int .i64 a0_Until, .slice A_a0_Holds a0_Holds.length c_a0_Holds] : List Value))) (by kernel_rfl) ty24 hI (by kernel_rfl) (by kernel_rfl) (by kernel_rfl) (by kernel_rfl) (by kernel_rfl) ?_)
          intro w hI
          refine OpsT.done ?_
          refine Qn.then ?_
          refine CodT.seq ?_
          refine CodT.regionL [0, 1] (by kernel_rfl) ?_
          refine OpsT.pures (r := [1]) [0] [5, 6, 11, 13, 14, 15, 16, 17, 18, 19, 20, 21, 22, 69] (S' := [(5, .pointer (some ⟨b1, 0, none⟩)), (6, .pointer (some ⟨b2, 0, none⟩)), (11, .bool y4), (13, .string y16), (14, .int .i64 y17), (15, .string y19), (16, .int .i64 y20), (17, .pointer (some ⟨b31, 0, none⟩)), (18, .int .i64 y30), (19, .pointer (some ⟨b42, 0, none⟩)), (20, .int .i64 y41), (21, .bool y44), (22, .pointer (some ⟨b45, 0, none⟩)), (69, .pointer (some ⟨b45, 2, none⟩))]) (by kernel_rfl) ?_
          refine OpsT.cons (Does.storeLit (T := 9) (b := b45) (o := 2) (v := .string (⟨#[]⟩ : ByteArray)) (l := (([.int .i64 a0_ID, .string a0_Name, .string a0_Data, .bool a0_Sealed, .int .i64 a0_Until, .slice A_a0_Holds a0_Holds.length c_a0_Holds] : List Value))) (vs := ([.string (⟨#[]⟩ : ByteArray)] : List Value)) (L' := (([.int .i64 a0_ID, .string a0_Name, .string (⟨#[]⟩ : ByteArray), .bool a0_Sealed, .int .i64 a0_Until, .slice A_a0_Holds a0_Holds.length c_a0_Holds] : List Value))) (by kernel_rfl) ty9 hI (by kernel_rfl) (by kernel_rfl) (by kernel_rfl) (by kernel_rfl) (by kernel_rfl) ?_)
          intro w hI
          refine OpsT.done ?_
          refine Qn.then ?_
          obtain ⟨r1, h1, h0⟩ := bindS h0
          refine CodT.meet (fun a w => ∃ (x48 : Bool) (Z46 : Hp), x48 = r1 ∧ Fr 112 [(10, .bool x48)] a ∧ Inv w0 Z46 w A ∧ Z.le Z46) ?_ ?_
          ·
            have hI := hI.mono (pick5 _ _ _ _ _ _)
            obtain ⟨Z49, hle50, hr51, hI⟩ := ownS_freeze hI
            have hI := hI.mono (pick3 _ _ _ _)
            obtain ⟨Z52, hle53, hr54, hI⟩ := ownS_freeze hI
            refine CodT.drawI (n := 43) [] (by kernel_rfl) (by kernel_rfl) hI ?_
            intro w hI
            refine GmT.p' 0 70 (.bool y4) (by kernel_rfl) (by kernel_rfl) ?_
            refine GmT.p' 1 71 (.bool y4) (by kernel_rfl) (by kernel_rfl) ?_
            by_cases hb55 : y4 = true
            · rw [if_pos hb55] at h1
              refine GmT.keep [5, 6, 13, 14, 15, 16, 17, 18, 19, 20, 21, 22, 71] (S' := [(5, .pointer (some ⟨b1, 0, none⟩)), (6, .pointer (some ⟨b2, 0, none⟩)), (13, .string y16), (14, .int .i64 y17), (15, .string y19), (16, .int .i64 y20), (17, .pointer (some ⟨b31, 0, none⟩)), (18, .int .i64 y30), (19, .pointer (some ⟨b42, 0, none⟩)), (20, .int .i64 y41), (21, .bool y44), (22, .pointer (some ⟨b45, 0, none⟩)), (71, .bool true)]) (by (try simp only [hb55]); kernel_rfl) ?_
              refine GmT.p' 2 72 (.string y16) (by kernel_rfl) (by kernel_rfl) ?_
              refine GmT.p' 3 73 (.string y19) (by kernel_rfl) (by kernel_rfl) ?_
              refine GmT.p' 4 74 (.bool (seq y16 y19)) (by kernel_rfl) (by kernel_rfl) ?_
              refine GmT.p' 5 75 (.bool (seq y16 y19)) (by kernel_rfl) (by kernel_rfl) ?_
              refine GmT.p' 6 76 (.bool (seq y16 y19)) (by kernel_rfl) (by kernel_rfl) ?_
              by_cases hb56 : (seq y16 y19) = true
              · rw [if_pos hb56] at h1
                refine GmT.keep [5, 6, 14, 16, 17, 18, 19, 20, 21, 22, 76] (S' := [(5, .pointer (some ⟨b1, 0, none⟩)), (6, .pointer (some ⟨b2, 0, none⟩)), (14, .int .i64 y17), (16, .int .i64 y20), (17, .pointer (some ⟨b31, 0, none⟩)), (18, .int .i64 y30), (19, .pointer (some ⟨b42, 0, none⟩)), (20, .int .i64 y41), (21, .bool y44), (22, .pointer (some ⟨b45, 0, none⟩)), (76, .bool true)]) (by (try simp only [hb56]); kernel_rfl) ?_
                refine GmT.p' 7 77 (.int .i64 y17) (by kernel_rfl) (by kernel_rfl) ?_
                refine GmT.p' 8 78 (.int .i64 y20) (by kernel_rfl) (by kernel_rfl) ?_
                refine GmT.p' 9 79 (.bool (y17 == y20)) (by kernel_rfl) (by kernel_rfl) ?_
                refine GmT.p' 10 80 (.bool (y17 == y20)) (by kernel_rfl) (by kernel_rfl) ?_
                refine GmT.p' 11 81 (.bool (y17 == y20)) (by kernel_rfl) (by kernel_rfl) ?_
                by_cases hb57 : (y17 == y20) = true
                · rw [if_pos hb57] at h1
                  refine GmT.keep [5, 6, 17, 18, 19, 20, 21, 22, 81] (S' := [(5, .pointer (some ⟨b1, 0, none⟩)), (6, .pointer (some ⟨b2, 0, none⟩)), (17, .pointer (some ⟨b31, 0, none⟩)), (18, .int .i64 y30), (19, .pointer (some ⟨b42, 0, none⟩)), (20, .int .i64 y41), (21, .bool y44), (22, .pointer (some ⟨b45, 0, none⟩)), (81, .bool true)]) (by (try simp only [hb57]); kernel_rfl) ?_
                  refine GmT.r (i := 12) 2 (by kernel_rfl) (by kernel_rfl) (Yl.load (d := 82) (T := 24) (v := .agg ((([.int .i64 y22, .string y23, .string y24, .bool y25, .int .i64 y26, .slice A28 y27.length cp29] : List Value))).toArray) (by kernel_rfl) (ldBN ty24 (l := (([.int .i64 y22, .string y23, .string y24, .bool y25, .int .i64 y26, .slice A28 y27.length cp29] : List Value))) (o := 0) (cs := (([.int .i64 y22, .string y23, .string y24, .bool y25, .int .i64 y26, .slice A28 y27.length cp29] : List Value))) (pick3 _ _ _ _) (by kernel_rfl) (whole _ _ (by kernel_rfl)))) hI ?_
                  refine GmT.r (i := 13) 2 (by kernel_rfl) (by kernel_rfl) (Yl.load (d := 83) (T := 24) (v := .agg ((([.int .i64 y33, .string y34, .string y35, .bool y36, .int .i64 y37, .slice A39 y38.length cp40] : List Value))).toArray) (by kernel_rfl) (ldBN ty24 (l := (([.int .i64 y33, .string y34, .string y35, .bool y36, .int .i64 y37, .slice A39 y38.length cp40] : List Value))) (o := 0) (cs := (([.int .i64 y33, .string y34, .string y35, .bool y36, .int .i64 y37, .slice A39 y38.length cp40] : List Value))) (pick2 _ _ _) (by kernel_rfl) (whole _ _ (by kernel_rfl)))) hI ?_
                  obtain ⟨y59, hc58, h1⟩ := bindS h1
                  try dsimp only at h1
                  refine GmT.o (i := 14) (by kernel_rfl) (Does.call (d := some 84) (n := 16) (vs := [.agg ((([.int .i64 y22, .string y23, .string y24, .bool y25, .int .i64 y26, .slice A28 y27.length cp29] : List Value))).toArray, .agg ((([.int .i64 y33, .string y34, .string y35, .bool y36, .int .i64 y37, .slice A39 y38.length cp40] : List Value))).toArray]) (by kernel_rfl) en16 (c16 w0 w _ _ hI (hT.mono (Hp.le_trans hle50 hle53)) y22 y23 y24 y25 y26 A28 cp29 y27 (hr51.mono hle53) y33 y34 y35 y36 y37 A39 cp40 y38 hr54 _ hc58) ?_)
                  rintro e w ⟨rfl, hI⟩
                  refine ⟨_, rfl, ?_⟩
                  refine ⟨fun _ _ => hI, ?_⟩
                  refine GmT.p' 15 85 (.bool y59) (by kernel_rfl) (by kernel_rfl) ?_
                  refine GmT.p' 16 86 (.bool y59) (by kernel_rfl) (by kernel_rfl) ?_
                  by_cases hb60 : y59 = true
                  · rw [if_pos hb60] at h1
                    refine GmT.keep [5, 6, 18, 20, 21, 22, 86] (S' := [(5, .pointer (some ⟨b1, 0, none⟩)), (6, .pointer (some ⟨b2, 0, none⟩)), (18, .int .i64 y30), (20, .int .i64 y41), (21, .bool y44), (22, .pointer (some ⟨b45, 0, none⟩)), (86, .bool true)]) (by (try simp only [hb60]); kernel_rfl) ?_
                    refine GmT.p' 17 87 (.int .i64 y30) (by kernel_rfl) (by kernel_rfl) ?_
                    refine GmT.p' 18 88 (.int .i64 y41) (by kernel_rfl) (by kernel_rfl) ?_
                    refine GmT.p' 19 89 (.bool (y30 == y41)) (by kernel_rfl) (by kernel_rfl) ?_
                    refine GmT.p' 20 90 (.bool (y30 == y41)) (by kernel_rfl) (by kernel_rfl) ?_
                    refine GmT.p' 21 91 (.bool (y30 == y41)) (by kernel_rfl) (by kernel_rfl) ?_
                    by_cases hb61 : (y30 == y41) = true
                    · rw [if_pos hb61] at h1
                      refine GmT.keep [5, 6, 21, 22, 91] (S' := [(5, .pointer (some ⟨b1, 0, none⟩)), (6, .pointer (some ⟨b2, 0, none⟩)), (21, .bool y44), (22, .pointer (some ⟨b45, 0, none⟩)), (91, .bool true)]) (by (try simp only [hb61]); kernel_rfl) ?_
                      refine GmT.p' 24 94 (.bool y44) (by kernel_rfl) (by kernel_rfl) ?_
                      refine GmT.r (i := 22) 2 (by kernel_rfl) (by kernel_rfl) (Yl.load (d := 92) (T := 24) (v := .agg ((([.int .i64 a0_ID, .string a0_Name, .string a0_Data, .bool a0_Sealed, .int .i64 a0_Until, .slice A_a0_Holds a0_Holds.length c_a0_Holds] : List Value))).toArray) (by kernel_rfl) (ldBN ty24 (l := (([.int .i64 a0_ID, .string a0_Name, .string a0_Data, .bool a0_Sealed, .int .i64 a0_Until, .slice A_a0_Holds a0_Holds.length c_a0_Holds] : List Value))) (o := 0) (cs := (([.int .i64 a0_ID, .string a0_Name, .string a0_Data, .bool a0_Sealed, .int .i64 a0_Until, .slice A_a0_Holds a0_Holds.length c_a0_Holds] : List Value))) (pick5 _ _ _ _ _ _) (by kernel_rfl) (whole _ _ (by kernel_rfl)))) hI ?_
                      obtain ⟨y63, hc62, h1⟩ := bindS h1
                      try dsimp only at h1
                      refine GmT.o (i := 23) (by kernel_rfl) (Does.call (d := some 93) (n := 17) (vs := [.agg ((([.int .i64 a0_ID, .string a0_Name, .string a0_Data, .bool a0_Sealed, .int .i64 a0_Until, .slice A_a0_Holds a0_Holds.length c_a0_Holds] : List Value))).toArray]) (by kernel_rfl) en17 (c17 w0 w _ _ hI (hT.mono (Hp.le_trans hle50 hle53)) a0_ID a0_Name a0_Data a0_Sealed a0_Until A_a0_Holds c_a0_Holds a0_Holds (hr_a0_Holds.mono (Hp.le_trans hle50 hle53)) _ hc62) ?_)
                      rintro e w ⟨rfl, hI⟩
                      refine ⟨_, rfl, ?_⟩
                      refine ⟨fun _ _ => hI, ?_⟩
                      refine GmT.p' 25 95 (.bool (y63 == y44)) (by kernel_rfl) (by kernel_rfl) ?_
                      refine GmT.p' 26 96 (.bool (y63 == y44)) (by kernel_rfl) (by kernel_rfl) ?_
                      refine GmT.p' 27 97 (.bool (y63 == y44)) (by kernel_rfl) (by kernel_rfl) ?_
                      by_cases hb64 : (y63 == y44) = true
                      · rw [if_pos hb64] at h1
                        refine GmT.keep [5, 6, 22, 97] (S' := [(5, .pointer (some ⟨b1, 0, none⟩)), (6, .pointer (some ⟨b2, 0, none⟩)), (22, .pointer (some ⟨b45, 0, none⟩)), (97, .bool true)]) (by (try simp only [hb64]); kernel_rfl) ?_
                        refine GmT.r (i := 28) 2 (by kernel_rfl) (by kernel_rfl) (Yl.load (d := 98) (T := 24) (v := .agg ((([.int .i64 a0_ID, .string a0_Name, .string a0_Data, .bool a0_Sealed, .int .i64 a0_Until, .slice A_a0_Holds a0_Holds.length c_a0_Holds] : List Value))).toArray) (by kernel_rfl) (ldBN ty24 (l := (([.int .i64 a0_ID, .string a0_Name, .string a0_Data, .bool a0_Sealed, .int .i64 a0_Until, .slice A_a0_Holds a0_Holds.length c_a0_Holds] : List Value))) (o := 0) (cs := (([.int .i64 a0_ID, .string a0_Name, .string a0_Data, .bool a0_Sealed, .int .i64 a0_Until, .slice A_a0_Holds a0_Holds.length c_a0_Holds] : List Value))) (pick5 _ _ _ _ _ _) (by kernel_rfl) (whole _ _ (by kernel_rfl)))) hI ?_
                        refine GmT.r (i := 29) 2 (by kernel_rfl) (by kernel_rfl) (Yl.load (d := 99) (T := 24) (v := .agg ((([.int .i64 a1_ID, .string a1_Name, .string a1_Data, .bool a1_Sealed, .int .i64 a1_Until, .slice A_a1_Holds a1_Holds.length c_a1_Holds] : List Value))).toArray) (by kernel_rfl) (ldBN ty24 (l := (([.int .i64 a1_ID, .string a1_Name, .string a1_Data, .bool a1_Sealed, .int .i64 a1_Until, .slice A_a1_Holds a1_Holds.length c_a1_Holds] : List Value))) (o := 0) (cs := (([.int .i64 a1_ID, .string a1_Name, .string a1_Data, .bool a1_Sealed, .int .i64 a1_Until, .slice A_a1_Holds a1_Holds.length c_a1_Holds] : List Value))) (pick4 _ _ _ _ _) (by kernel_rfl) (whole _ _ (by kernel_rfl)))) hI ?_
                        refine GmT.r (i := 31) 2 (by kernel_rfl) (by kernel_rfl) (Yl.load (d := 101) (T := 24) (v := .agg ((([.int .i64 a0_ID, .string a0_Name, .string a0_Data, .bool a0_Sealed, .int .i64 a0_Until, .slice A_a0_Holds a0_Holds.length c_a0_Holds] : List Value))).toArray) (by kernel_rfl) (ldBN ty24 (l := (([.int .i64 a0_ID, .string a0_Name, .string a0_Data, .bool a0_Sealed, .int .i64 a0_Until, .slice A_a0_Holds a0_Holds.length c_a0_Holds] : List Value))) (o := 0) (cs := (([.int .i64 a0_ID, .string a0_Name, .string a0_Data, .bool a0_Sealed, .int .i64 a0_Until, .slice A_a0_Holds a0_Holds.length c_a0_Holds] : List Value))) (pick5 _ _ _ _ _ _) (by kernel_rfl) (whole _ _ (by kernel_rfl)))) hI ?_
                        refine GmT.r (i := 32) 2 (by kernel_rfl) (by kernel_rfl) (Yl.load (d := 102) (T := 24) (v := .agg ((([.int .i64 a1_ID, .string a1_Name, .string a1_Data, .bool a1_Sealed, .int .i64 a1_Until, .slice A_a1_Holds a1_Holds.length c_a1_Holds] : List Value))).toArray) (by kernel_rfl) (ldBN ty24 (l := (([.int .i64 a1_ID, .string a1_Name, .string a1_Data, .bool a1_Sealed, .int .i64 a1_Until, .slice A_a1_Holds a1_Holds.length c_a1_Holds] : List Value))) (o := 0) (cs := (([.int .i64 a1_ID, .string a1_Name, .string a1_Data, .bool a1_Sealed, .int .i64 a1_Until, .slice A_a1_Holds a1_Holds.length c_a1_Holds] : List Value))) (pick4 _ _ _ _ _) (by kernel_rfl) (whole _ _ (by kernel_rfl)))) hI ?_
                        obtain ⟨y66, hc65, h1⟩ := bindS h1
                        try dsimp only at h1
                        refine GmT.o (i := 30) (by kernel_rfl) (Does.call (d := some 100) (n := 18) (vs := [.agg ((([.int .i64 a0_ID, .string a0_Name, .string a0_Data, .bool a0_Sealed, .int .i64 a0_Until, .slice A_a0_Holds a0_Holds.length c_a0_Holds] : List Value))).toArray, .agg ((([.int .i64 a1_ID, .string a1_Name, .string a1_Data, .bool a1_Sealed, .int .i64 a1_Until, .slice A_a1_Holds a1_Holds.length c_a1_Holds] : List Value))).toArray]) (by kernel_rfl) en18 (c18 w0 w _ _ hI (hT.mono (Hp.le_trans hle50 hle53)) a0_ID a0_Name a0_Data a0_Sealed a0_Until A_a0_Holds c_a0_Holds a0_Holds (hr_a0_Holds.mono (Hp.le_trans hle50 hle53)) a1_ID a1_Name a1_Data a1_Sealed a1_Until A_a1_Holds c_a1_Holds a1_Holds (hr_a1_Holds.mono (Hp.le_trans hle50 hle53)) _ hc65) ?_)
                        rintro e w ⟨rfl, hI⟩
                        refine ⟨_, rfl, ?_⟩
                        refine ⟨fun _ _ => hI, ?_⟩
                        obtain ⟨y68, hc67, h1⟩ := bindS h1
                        try dsimp only at h1
                        refine GmT.o (i := 33) (by kernel_rfl) (Does.call (d := some 103) (n := 16) (vs := [.agg ((([.int .i64 a0_ID, .string a0_Name, .string a0_Data, .bool a0_Sealed, .int .i64 a0_Until, .slice A_a0_Holds a0_Holds.length c_a0_Holds] : List Value))).toArray, .agg ((([.int .i64 a1_ID, .string a1_Name, .string a1_Data, .bool a1_Sealed, .int .i64 a1_Until, .slice A_a1_Holds a1_Holds.length c_a1_Holds] : List Value))).toArray]) (by kernel_rfl) en16 (c16 w0 w _ _ hI (hT.mono (Hp.le_trans hle50 hle53)) a0_ID a0_Name a0_Data a0_Sealed a0_Until A_a0_Holds c_a0_Holds a0_Holds (hr_a0_Holds.mono (Hp.le_trans hle50 hle53)) a1_ID a1_Name a1_Data a1_Sealed a1_Until A_a1_Holds c_a1_Holds a1_Holds (hr_a1_Holds.mono (Hp.le_trans hle50 hle53)) _ hc67) ?_)
                        rintro e w ⟨rfl, hI⟩
                        refine ⟨_, rfl, ?_⟩
                        refine ⟨fun _ _ => hI, ?_⟩
                        refine GmT.p' 34 104 (.bool (y66 == y68)) (by kernel_rfl) (by kernel_rfl) ?_
                        refine GmT.p' 35 105 (.bool (y66 == y68)) (by kernel_rfl) (by kernel_rfl) ?_
                        refine GmT.p' 36 106 (.bool (y66 == y68)) (by kernel_rfl) (by kernel_rfl) ?_
                        by_cases hb69 : (y66 == y68) = true
                        · rw [if_pos hb69] at h1
                          refine GmT.keep [5, 22, 106] (S' := [(5, .pointer (some ⟨b1, 0, none⟩)), (22, .pointer (some ⟨b45, 0, none⟩)), (106, .bool true)]) (by (try simp only [hb69]); kernel_rfl) ?_
                          refine GmT.r (i := 37) 2 (by kernel_rfl) (by kernel_rfl) (Yl.load (d := 107) (T := 24) (v := .agg ((([.int .i64 a0_ID, .string a0_Name, .string a0_Data, .bool a0_Sealed, .int .i64 a0_Until, .slice A_a0_Holds a0_Holds.length c_a0_Holds] : List Value))).toArray) (by kernel_rfl) (ldBN ty24 (l := (([.int .i64 a0_ID, .string a0_Name, .string a0_Data, .bool a0_Sealed, .int .i64 a0_Until, .slice A_a0_Holds a0_Holds.length c_a0_Holds] : List Value))) (o := 0) (cs := (([.int .i64 a0_ID, .string a0_Name, .string a0_Data, .bool a0_Sealed, .int .i64 a0_Until, .slice A_a0_Holds a0_Holds.length c_a0_Holds] : List Value))) (pick5 _ _ _ _ _ _) (by kernel_rfl) (whole _ _ (by kernel_rfl)))) hI ?_
                          refine GmT.r (i := 39) 2 (by kernel_rfl) (by kernel_rfl) (Yl.load (d := 109) (T := 24) (v := .agg ((([.int .i64 a0_ID, .string a0_Name, .string (⟨#[]⟩ : ByteArray), .bool a0_Sealed, .int .i64 a0_Until, .slice A_a0_Holds a0_Holds.length c_a0_Holds] : List Value))).toArray) (by kernel_rfl) (ldBN ty24 (l := (([.int .i64 a0_ID, .string a0_Name, .string (⟨#[]⟩ : ByteArray), .bool a0_Sealed, .int .i64 a0_Until, .slice A_a0_Holds a0_Holds.length c_a0_Holds] : List Value))) (o := 0) (cs := (([.int .i64 a0_ID, .string a0_Name, .string (⟨#[]⟩ : ByteArray), .bool a0_Sealed, .int .i64 a0_Until, .slice A_a0_Holds a0_Holds.length c_a0_Holds] : List Value))) (ent_refl _) (by kernel_rfl) (whole _ _ (by kernel_rfl)))) hI ?_
                          obtain ⟨⟨y71, y72, y73, y74, y75, y76⟩, hc70, h1⟩ := bindS h1
                          try dsimp only at h1
                          refine GmT.o (i := 38) (by kernel_rfl) (Does.call (d := some 108) (n := 19) (vs := [.agg ((([.int .i64 a0_ID, .string a0_Name, .string a0_Data, .bool a0_Sealed, .int .i64 a0_Until, .slice A_a0_Holds a0_Holds.length c_a0_Holds] : List Value))).toArray]) (by kernel_rfl) en19 (c19 w0 w _ _ hI (hT.mono (Hp.le_trans hle50 hle53)) a0_ID a0_Name a0_Data a0_Sealed a0_Until A_a0_Holds c_a0_Holds a0_Holds (hr_a0_Holds.mono (Hp.le_trans hle50 hle53)) _ hc70) ?_)
                          rintro e w ⟨A77, cp78, Z80, hle81, rfl, hr79, hI⟩
                          refine ⟨_, rfl, ?_⟩
                          have hC := hI
                          have hC := hC.weaken hle81
                          refine ⟨fun _ _ => hC, ?_⟩
                          obtain ⟨y83, hc82, h1⟩ := bindS h1
                          try dsimp only at h1
                          refine GmT.o (i := 40) (by kernel_rfl) (Does.call (d := some 110) (n := 16) (vs := [.agg ((([.int .i64 y71, .string y72, .string y73, .bool y74, .int .i64 y75, .slice A77 y76.length cp78] : List Value))).toArray, .agg ((([.int .i64 a0_ID, .string a0_Name, .string (⟨#[]⟩ : ByteArray), .bool a0_Sealed, .int .i64 a0_Until, .slice A_a0_Holds a0_Holds.length c_a0_Holds] : List Value))).toArray]) (by kernel_rfl) en16 (c16 w0 w _ _ hI (hT.mono (Hp.le_trans (Hp.le_trans hle50 hle53) hle81)) y71 y72 y73 y74 y75 A77 cp78 y76 hr79 a0_ID a0_Name (⟨#[]⟩ : ByteArray) a0_Sealed a0_Until A_a0_Holds c_a0_Holds a0_Holds (hr_a0_Holds.mono (Hp.le_trans (Hp.le_trans hle50 hle53) hle81)) _ hc82) ?_)
                          rintro e w ⟨rfl, hI⟩
                          refine ⟨_, rfl, ?_⟩
                          have hC := hI
                          have hC := hC.weaken hle81
                          refine ⟨fun _ _ => hC, ?_⟩
                          refine GmT.p' 41 111 (.bool y83) (by kernel_rfl) (by kernel_rfl) ?_
                          refine GmT.p' 42 10 (.bool y83) (by kernel_rfl) (by kernel_rfl) ?_
                          refine GmT.done (by kernel_rfl) ?_
                          have hI := hI.drop
                          have hI := hI.drop
                          have hI := hI.drop
                          have hI := hI.drop
                          have hI := hI.drop
                          have e := someS h1
                          subst e
                          exact Qn.thenJ fun a ha => ⟨y83, Z80, rfl, ha.keep [10] (by kernel_rfl), hI, (Hp.le_trans (Hp.le_trans hle50 hle53) hle81)⟩
                        · rw [if_neg hb69] at h1
                          have hb69 : (y66 == y68) = false := by simpa using hb69
                          refine GmT.keep [5, 22, 106] (S' := [(5, .pointer (some ⟨b1, 0, none⟩)), (22, .pointer (some ⟨b45, 0, none⟩)), (106, .bool false)]) (by (try simp only [hb69]); kernel_rfl) ?_
                          refine GmT.p' 37 107 (undef) (by kernel_rfl) (by kernel_rfl) ?_
                          refine GmT.p' 38 108 (undef) (by kernel_rfl) (by kernel_rfl) ?_
                          refine GmT.p' 39 109 (undef) (by kernel_rfl) (by kernel_rfl) ?_
                          refine GmT.p' 40 110 (undef) (by kernel_rfl) (by kernel_rfl) ?_
                          refine GmT.p' 41 111 (.bool false) (by kernel_rfl) (by kernel_rfl) ?_
                          refine GmT.p' 42 10 (.bool false) (by kernel_rfl) (by kernel_rfl) ?_
                          refine GmT.done (by kernel_rfl) ?_
                          have hI := hI.drop
                          have hI := hI.drop
                          have hI := hI.drop
                          have hI := hI.drop
                          have hI := hI.drop
                          have e := someS h1
                          subst e
                          exact Qn.thenJ fun a ha => ⟨false, Z52, rfl, ha.keep [10] (by kernel_rfl), hI, (Hp.le_trans hle50 hle53)⟩
                      · rw [if_neg hb64] at h1
                        have hb64 : (y63 == y44) = false := by simpa using hb64
                        refine GmT.keep [5, 6, 22, 97] (S' := [(5, .pointer (some ⟨b1, 0, none⟩)), (6, .pointer (some ⟨b2, 0, none⟩)), (22, .pointer (some ⟨b45, 0, none⟩)), (97, .bool false)]) (by (try simp only [hb64]); kernel_rfl) ?_
                        refine GmT.p' 28 98 (undef) (by kernel_rfl) (by kernel_rfl) ?_
                        refine GmT.p' 29 99 (undef) (by kernel_rfl) (by kernel_rfl) ?_
                        refine GmT.p' 30 100 (undef) (by kernel_rfl) (by kernel_rfl) ?_
                        refine GmT.p' 31 101 (undef) (by kernel_rfl) (by kernel_rfl) ?_
                        refine GmT.p' 32 102 (undef) (by kernel_rfl) (by kernel_rfl) ?_
                        refine GmT.p' 33 103 (undef) (by kernel_rfl) (by kernel_rfl) ?_
                        refine GmT.p' 34 104 (undef) (by kernel_rfl) (by kernel_rfl) ?_
                        refine GmT.p' 35 105 (.bool false) (by kernel_rfl) (by kernel_rfl) ?_
                        refine GmT.p' 36 106 (.bool false) (by kernel_rfl) (by kernel_rfl) ?_
                        refine GmT.p' 37 107 (undef) (by kernel_rfl) (by kernel_rfl) ?_
                        refine GmT.p' 38 108 (undef) (by kernel_rfl) (by kernel_rfl) ?_
                        refine GmT.p' 39 109 (undef) (by kernel_rfl) (by kernel_rfl) ?_
                        refine GmT.p' 40 110 (undef) (by kernel_rfl) (by kernel_rfl) ?_
                        refine GmT.p' 41 111 (.bool false) (by kernel_rfl) (by kernel_rfl) ?_
                        refine GmT.p' 42 10 (.bool false) (by kernel_rfl) (by kernel_rfl) ?_
                        refine GmT.done (by kernel_rfl) ?_
                        have hI := hI.drop
                        have hI := hI.drop
                        have hI := hI.drop
                        have hI := hI.drop
                        have hI := hI.drop
                        have e := someS h1
                        subst e
                        exact Qn.thenJ fun a ha => ⟨false, Z52, rfl, ha.keep [10] (by kernel_rfl), hI, (Hp.le_trans hle50 hle53)⟩
                    · rw [if_neg hb61] at h1
                      have hb61 : (y30 == y41) = false := by simpa using hb61
                      refine GmT.keep [5, 6, 21, 22, 91] (S' := [(5, .pointer (some ⟨b1, 0, none⟩)), (6, .pointer (some ⟨b2, 0, none⟩)), (21, .bool y44), (22, .pointer (some ⟨b45, 0, none⟩)), (91, .bool false)]) (by (try simp only [hb61]); kernel_rfl) ?_
                      refine GmT.p' 22 92 (undef) (by kernel_rfl) (by kernel_rfl) ?_
                      refine GmT.p' 23 93 (undef) (by kernel_rfl) (by kernel_rfl) ?_
                      refine GmT.p' 24 94 (undef) (by kernel_rfl) (by kernel_rfl) ?_
                      refine GmT.p' 25 95 (undef) (by kernel_rfl) (by kernel_rfl) ?_
                      refine GmT.p' 26 96 (.bool false) (by kernel_rfl) (by kernel_rfl) ?_
                      refine GmT.p' 27 97 (.bool false) (by kernel_rfl) (by kernel_rfl) ?_
                      refine GmT.p' 28 98 (undef) (by kernel_rfl) (by kernel_rfl) ?_
                      refine GmT.p' 29 99 (undef) (by kernel_rfl) (by kernel_rfl) ?_
                      refine GmT.p' 30 100 (undef) (by kernel_rfl) (by kernel_rfl) ?_
                      refine GmT.p' 31 101 (undef) (by kernel_rfl) (by kernel_rfl) ?_
                      refine GmT.p' 32 102 (undef) (by kernel_rfl) (by kernel_rfl) ?_
                      refine GmT.p' 33 103 (undef) (by kernel_rfl) (by kernel_rfl) ?_
                      refine GmT.p' 34 104 (undef) (by kernel_rfl) (by kernel_rfl) ?_
                      refine GmT.p' 35 105 (.bool false) (by kernel_rfl) (by kernel_rfl) ?_
                      refine GmT.p' 36 106 (.bool false) (by kernel_rfl) (by kernel_rfl) ?_
                      refine GmT.p' 37 107 (undef) (by kernel_rfl) (by kernel_rfl) ?_
                      refine GmT.p' 38 108 (undef) (by kernel_rfl) (by kernel_rfl) ?_
                      refine GmT.p' 39 109 (undef) (by kernel_rfl) (by kernel_rfl) ?_
                      refine GmT.p' 40 110 (undef) (by kernel_rfl) (by kernel_rfl) ?_
                      refine GmT.p' 41 111 (.bool false) (by kernel_rfl) (by kernel_rfl) ?_
                      refine GmT.p' 42 10 (.bool false) (by kernel_rfl) (by kernel_rfl) ?_
                      refine GmT.done (by kernel_rfl) ?_
                      have hI := hI.drop
                      have hI := hI.drop
                      have hI := hI.drop
                      have hI := hI.drop
                      have hI := hI.drop
                      have e := someS h1
                      subst e
                      exact Qn.thenJ fun a ha => ⟨false, Z52, rfl, ha.keep [10] (by kernel_rfl), hI, (Hp.le_trans hle50 hle53)⟩
                  · rw [if_neg hb60] at h1
                    have hb60 : y59 = false := by simpa using hb60
                    refine GmT.keep [5, 6, 18, 20, 21, 22, 86] (S' := [(5, .pointer (some ⟨b1, 0, none⟩)), (6, .pointer (some ⟨b2, 0, none⟩)), (18, .int .i64 y30), (20, .int .i64 y41), (21, .bool y44), (22, .pointer (some ⟨b45, 0, none⟩)), (86, .bool false)]) (by (try simp only [hb60]); kernel_rfl) ?_
                    refine GmT.p' 17 87 (undef) (by kernel_rfl) (by kernel_rfl) ?_
                    refine GmT.p' 18 88 (undef) (by kernel_rfl) (by kernel_rfl) ?_
                    refine GmT.p' 19 89 (undef) (by kernel_rfl) (by kernel_rfl) ?_
                    refine GmT.p' 20 90 (.bool false) (by kernel_rfl) (by kernel_rfl) ?_
                    refine GmT.p' 21 91 (.bool false) (by kernel_rfl) (by kernel_rfl) ?_
                    refine GmT.p' 22 92 (undef) (by kernel_rfl) (by kernel_rfl) ?_
                    refine GmT.p' 23 93 (undef) (by kernel_rfl) (by kernel_rfl) ?_
                    refine GmT.p' 24 94 (undef) (by kernel_rfl) (by kernel_rfl) ?_
                    refine GmT.p' 25 95 (undef) (by kernel_rfl) (by kernel_rfl) ?_
                    refine GmT.p' 26 96 (.bool false) (by kernel_rfl) (by kernel_rfl) ?_
                    refine GmT.p' 27 97 (.bool false) (by kernel_rfl) (by kernel_rfl) ?_
                    refine GmT.p' 28 98 (undef) (by kernel_rfl) (by kernel_rfl) ?_
                    refine GmT.p' 29 99 (undef) (by kernel_rfl) (by kernel_rfl) ?_
                    refine GmT.p' 30 100 (undef) (by kernel_rfl) (by kernel_rfl) ?_
                    refine GmT.p' 31 101 (undef) (by kernel_rfl) (by kernel_rfl) ?_
                    refine GmT.p' 32 102 (undef) (by kernel_rfl) (by kernel_rfl) ?_
                    refine GmT.p' 33 103 (undef) (by kernel_rfl) (by kernel_rfl) ?_
                    refine GmT.p' 34 104 (undef) (by kernel_rfl) (by kernel_rfl) ?_
                    refine GmT.p' 35 105 (.bool false) (by kernel_rfl) (by kernel_rfl) ?_
                    refine GmT.p' 36 106 (.bool false) (by kernel_rfl) (by kernel_rfl) ?_
                    refine GmT.p' 37 107 (undef) (by kernel_rfl) (by kernel_rfl) ?_
                    refine GmT.p' 38 108 (undef) (by kernel_rfl) (by kernel_rfl) ?_
                    refine GmT.p' 39 109 (undef) (by kernel_rfl) (by kernel_rfl) ?_
                    refine GmT.p' 40 110 (undef) (by kernel_rfl) (by kernel_rfl) ?_
                    refine GmT.p' 41 111 (.bool false) (by kernel_rfl) (by kernel_rfl) ?_
                    refine GmT.p' 42 10 (.bool false) (by kernel_rfl) (by kernel_rfl) ?_
                    refine GmT.done (by kernel_rfl) ?_
                    have hI := hI.drop
                    have hI := hI.drop
                    have hI := hI.drop
                    have hI := hI.drop
                    have hI := hI.drop
                    have e := someS h1
                    subst e
                    exact Qn.thenJ fun a ha => ⟨false, Z52, rfl, ha.keep [10] (by kernel_rfl), hI, (Hp.le_trans hle50 hle53)⟩
                · rw [if_neg hb57] at h1
                  have hb57 : (y17 == y20) = false := by simpa using hb57
                  refine GmT.keep [5, 6, 17, 18, 19, 20, 21, 22, 81] (S' := [(5, .pointer (some ⟨b1, 0, none⟩)), (6, .pointer (some ⟨b2, 0, none⟩)), (17, .pointer (some ⟨b31, 0, none⟩)), (18, .int .i64 y30), (19, .pointer (some ⟨b42, 0, none⟩)), (20, .int .i64 y41), (21, .bool y44), (22, .pointer (some ⟨b45, 0, none⟩)), (81, .bool false)]) (by (try simp only [hb57]); kernel_rfl) ?_
                  refine GmT.p' 12 82 (undef) (by kernel_rfl) (by kernel_rfl) ?_
                  refine GmT.p' 13 83 (undef) (by kernel_rfl) (by kernel_rfl) ?_
                  refine GmT.p' 14 84 (undef) (by kernel_rfl) (by kernel_rfl) ?_
                  refine GmT.p' 15 85 (.bool false) (by kernel_rfl) (by kernel_rfl) ?_
                  refine GmT.p' 16 86 (.bool false) (by kernel_rfl) (by kernel_rfl) ?_
                  refine GmT.p' 17 87 (undef) (by kernel_rfl) (by kernel_rfl) ?_
                  refine GmT.p' 18 88 (undef) (by kernel_rfl) (by kernel_rfl) ?_
                  refine GmT.p' 19 89 (undef) (by kernel_rfl) (by kernel_rfl) ?_
                  refine GmT.p' 20 90 (.bool false) (by kernel_rfl) (by kernel_rfl) ?_
                  refine GmT.p' 21 91 (.bool false) (by kernel_rfl) (by kernel_rfl) ?_
                  refine GmT.p' 22 92 (undef) (by kernel_rfl) (by kernel_rfl) ?_
                  refine GmT.p' 23 93 (undef) (by kernel_rfl) (by kernel_rfl) ?_
                  refine GmT.p' 24 94 (undef) (by kernel_rfl) (by kernel_rfl) ?_
                  refine GmT.p' 25 95 (undef) (by kernel_rfl) (by kernel_rfl) ?_
                  refine GmT.p' 26 96 (.bool false) (by kernel_rfl) (by kernel_rfl) ?_
                  refine GmT.p' 27 97 (.bool false) (by kernel_rfl) (by kernel_rfl) ?_
                  refine GmT.p' 28 98 (undef) (by kernel_rfl) (by kernel_rfl) ?_
                  refine GmT.p' 29 99 (undef) (by kernel_rfl) (by kernel_rfl) ?_
                  refine GmT.p' 30 100 (undef) (by kernel_rfl) (by kernel_rfl) ?_
                  refine GmT.p' 31 101 (undef) (by kernel_rfl) (by kernel_rfl) ?_
                  refine GmT.p' 32 102 (undef) (by kernel_rfl) (by kernel_rfl) ?_
                  refine GmT.p' 33 103 (undef) (by kernel_rfl) (by kernel_rfl) ?_
                  refine GmT.p' 34 104 (undef) (by kernel_rfl) (by kernel_rfl) ?_
                  refine GmT.p' 35 105 (.bool false) (by kernel_rfl) (by kernel_rfl) ?_
                  refine GmT.p' 36 106 (.bool false) (by kernel_rfl) (by kernel_rfl) ?_
                  refine GmT.p' 37 107 (undef) (by kernel_rfl) (by kernel_rfl) ?_
                  refine GmT.p' 38 108 (undef) (by kernel_rfl) (by kernel_rfl) ?_
                  refine GmT.p' 39 109 (undef) (by kernel_rfl) (by kernel_rfl) ?_
                  refine GmT.p' 40 110 (undef) (by kernel_rfl) (by kernel_rfl) ?_
                  refine GmT.p' 41 111 (.bool false) (by kernel_rfl) (by kernel_rfl) ?_
                  refine GmT.p' 42 10 (.bool false) (by kernel_rfl) (by kernel_rfl) ?_
                  refine GmT.done (by kernel_rfl) ?_
                  have hI := hI.drop
                  have hI := hI.drop
                  have hI := hI.drop
                  have hI := hI.drop
                  have hI := hI.drop
                  have e := someS h1
                  subst e
                  exact Qn.thenJ fun a ha => ⟨false, Z52, rfl, ha.keep [10] (by kernel_rfl), hI, (Hp.le_trans hle50 hle53)⟩
              · rw [if_neg hb56] at h1
                have hb56 : (seq y16 y19) = false := by simpa using hb56
                refine GmT.keep [5, 6, 14, 16, 17, 18, 19, 20, 21, 22, 76] (S' := [(5, .pointer (some ⟨b1, 0, none⟩)), (6, .pointer (some ⟨b2, 0, none⟩)), (14, .int .i64 y17), (16, .int .i64 y20), (17, .pointer (some ⟨b31, 0, none⟩)), (18, .int .i64 y30), (19, .pointer (some ⟨b42, 0, none⟩)), (20, .int .i64 y41), (21, .bool y44), (22, .pointer (some ⟨b45, 0, none⟩)), (76, .bool false)]) (by (try simp only [hb56]); kernel_rfl) ?_
                refine GmT.p' 7 77 (undef) (by kernel_rfl) (by kernel_rfl) ?_
                refine GmT.p' 8 78 (undef) (by kernel_rfl) (by kernel_rfl) ?_
                refine GmT.p' 9 79 (undef) (by kernel_rfl) (by kernel_rfl) ?_
                refine GmT.p' 10 80 (.bool false) (by kernel_rfl) (by kernel_rfl) ?_
                refine GmT.p' 11 81 (.bool false) (by kernel_rfl) (by kernel_rfl) ?_
                refine GmT.p' 12 82 (undef) (by kernel_rfl) (by kernel_rfl) ?_
                refine GmT.p' 13 83 (undef) (by kernel_rfl) (by kernel_rfl) ?_
                refine GmT.p' 14 84 (undef) (by kernel_rfl) (by kernel_rfl) ?_
                refine GmT.p' 15 85 (.bool false) (by kernel_rfl) (by kernel_rfl) ?_
                refine GmT.p' 16 86 (.bool false) (by kernel_rfl) (by kernel_rfl) ?_
                refine GmT.p' 17 87 (undef) (by kernel_rfl) (by kernel_rfl) ?_
                refine GmT.p' 18 88 (undef) (by kernel_rfl) (by kernel_rfl) ?_
                refine GmT.p' 19 89 (undef) (by kernel_rfl) (by kernel_rfl) ?_
                refine GmT.p' 20 90 (.bool false) (by kernel_rfl) (by kernel_rfl) ?_
                refine GmT.p' 21 91 (.bool false) (by kernel_rfl) (by kernel_rfl) ?_
                refine GmT.p' 22 92 (undef) (by kernel_rfl) (by kernel_rfl) ?_
                refine GmT.p' 23 93 (undef) (by kernel_rfl) (by kernel_rfl) ?_
                refine GmT.p' 24 94 (undef) (by kernel_rfl) (by kernel_rfl) ?_
                refine GmT.p' 25 95 (undef) (by kernel_rfl) (by kernel_rfl) ?_
                refine GmT.p' 26 96 (.bool false) (by kernel_rfl) (by kernel_rfl) ?_
                refine GmT.p' 27 97 (.bool false) (by kernel_rfl) (by kernel_rfl) ?_
                refine GmT.p' 28 98 (undef) (by kernel_rfl) (by kernel_rfl) ?_
                refine GmT.p' 29 99 (undef) (by kernel_rfl) (by kernel_rfl) ?_
                refine GmT.p' 30 100 (undef) (by kernel_rfl) (by kernel_rfl) ?_
                refine GmT.p' 31 101 (undef) (by kernel_rfl) (by kernel_rfl) ?_
                refine GmT.p' 32 102 (undef) (by kernel_rfl) (by kernel_rfl) ?_
                refine GmT.p' 33 103 (undef) (by kernel_rfl) (by kernel_rfl) ?_
                refine GmT.p' 34 104 (undef) (by kernel_rfl) (by kernel_rfl) ?_
                refine GmT.p' 35 105 (.bool false) (by kernel_rfl) (by kernel_rfl) ?_
                refine GmT.p' 36 106 (.bool false) (by kernel_rfl) (by kernel_rfl) ?_
                refine GmT.p' 37 107 (undef) (by kernel_rfl) (by kernel_rfl) ?_
                refine GmT.p' 38 108 (undef) (by kernel_rfl) (by kernel_rfl) ?_
                refine GmT.p' 39 109 (undef) (by kernel_rfl) (by kernel_rfl) ?_
                refine GmT.p' 40 110 (undef) (by kernel_rfl) (by kernel_rfl) ?_
                refine GmT.p' 41 111 (.bool false) (by kernel_rfl) (by kernel_rfl) ?_
                refine GmT.p' 42 10 (.bool false) (by kernel_rfl) (by kernel_rfl) ?_
                refine GmT.done (by kernel_rfl) ?_
                have hI := hI.drop
                have hI := hI.drop
                have hI := hI.drop
                have hI := hI.drop
                have hI := hI.drop
                have e := someS h1
                subst e
                exact Qn.thenJ fun a ha => ⟨false, Z52, rfl, ha.keep [10] (by kernel_rfl), hI, (Hp.le_trans hle50 hle53)⟩
            · rw [if_neg hb55] at h1
              have hb55 : y4 = false := by simpa using hb55
              refine GmT.keep [5, 6, 13, 14, 15, 16, 17, 18, 19, 20, 21, 22, 71] (S' := [(5, .pointer (some ⟨b1, 0, none⟩)), (6, .pointer (some ⟨b2, 0, none⟩)), (13, .string y16), (14, .int .i64 y17), (15, .string y19), (16, .int .i64 y20), (17, .pointer (some ⟨b31, 0, none⟩)), (18, .int .i64 y30), (19, .pointer (some ⟨b42, 0, none⟩)), (20, .int .i64 y41), (21, .bool y44), (22, .pointer (some ⟨b45, 0, none⟩)), (71, .bool false)]) (by (try simp only [hb55]); kernel_rfl) ?_
              refine GmT.p' 2 72 (undef) (by kernel_rfl) (by kernel_rfl) ?_
              refine GmT.p' 3 73 (undef) (by kernel_rfl) (by kernel_rfl) ?_
              refine GmT.p' 4 74 (undef) (by kernel_rfl) (by kernel_rfl) ?_
              refine GmT.p' 5 75 (.bool false) (by kernel_rfl) (by kernel_rfl) ?_
              refine GmT.p' 6 76 (.bool false) (by kernel_rfl) (by kernel_rfl) ?_
              refine GmT.p' 7 77 (undef) (by kernel_rfl) (by kernel_rfl) ?_
              refine GmT.p' 8 78 (undef) (by kernel_rfl) (by kernel_rfl) ?_
              refine GmT.p' 9 79 (undef) (by kernel_rfl) (by kernel_rfl) ?_
              refine GmT.p' 10 80 (.bool false) (by kernel_rfl) (by kernel_rfl) ?_
              refine GmT.p' 11 81 (.bool false) (by kernel_rfl) (by kernel_rfl) ?_
              refine GmT.p' 12 82 (undef) (by kernel_rfl) (by kernel_rfl) ?_
              refine GmT.p' 13 83 (undef) (by kernel_rfl) (by kernel_rfl) ?_
              refine GmT.p' 14 84 (undef) (by kernel_rfl) (by kernel_rfl) ?_
              refine GmT.p' 15 85 (.bool false) (by kernel_rfl) (by kernel_rfl) ?_
              refine GmT.p' 16 86 (.bool false) (by kernel_rfl) (by kernel_rfl) ?_
              refine GmT.p' 17 87 (undef) (by kernel_rfl) (by kernel_rfl) ?_
              refine GmT.p' 18 88 (undef) (by kernel_rfl) (by kernel_rfl) ?_
              refine GmT.p' 19 89 (undef) (by kernel_rfl) (by kernel_rfl) ?_
              refine GmT.p' 20 90 (.bool false) (by kernel_rfl) (by kernel_rfl) ?_
              refine GmT.p' 21 91 (.bool false) (by kernel_rfl) (by kernel_rfl) ?_
              refine GmT.p' 22 92 (undef) (by kernel_rfl) (by kernel_rfl) ?_
              refine GmT.p' 23 93 (undef) (by kernel_rfl) (by kernel_rfl) ?_
              refine GmT.p' 24 94 (undef) (by kernel_rfl) (by kernel_rfl) ?_
              refine GmT.p' 25 95 (undef) (by kernel_rfl) (by kernel_rfl) ?_
              refine GmT.p' 26 96 (.bool false) (by kernel_rfl) (by kernel_rfl) ?_
              refine GmT.p' 27 97 (.bool false) (by kernel_rfl) (by kernel_rfl) ?_
              refine GmT.p' 28 98 (undef) (by kernel_rfl) (by kernel_rfl) ?_
              refine GmT.p' 29 99 (undef) (by kernel_rfl) (by kernel_rfl) ?_
              refine GmT.p' 30 100 (undef) (by kernel_rfl) (by kernel_rfl) ?_
              refine GmT.p' 31 101 (undef) (by kernel_rfl) (by kernel_rfl) ?_
              refine GmT.p' 32 102 (undef) (by kernel_rfl) (by kernel_rfl) ?_
              refine GmT.p' 33 103 (undef) (by kernel_rfl) (by kernel_rfl) ?_
              refine GmT.p' 34 104 (undef) (by kernel_rfl) (by kernel_rfl) ?_
              refine GmT.p' 35 105 (.bool false) (by kernel_rfl) (by kernel_rfl) ?_
              refine GmT.p' 36 106 (.bool false) (by kernel_rfl) (by kernel_rfl) ?_
              refine GmT.p' 37 107 (undef) (by kernel_rfl) (by kernel_rfl) ?_
              refine GmT.p' 38 108 (undef) (by kernel_rfl) (by kernel_rfl) ?_
              refine GmT.p' 39 109 (undef) (by kernel_rfl) (by kernel_rfl) ?_
              refine GmT.p' 40 110 (undef) (by kernel_rfl) (by kernel_rfl) ?_
              refine GmT.p' 41 111 (.bool false) (by kernel_rfl) (by kernel_rfl) ?_
              refine GmT.p' 42 10 (.bool false) (by kernel_rfl) (by kernel_rfl) ?_
              refine GmT.done (by kernel_rfl) ?_
              have hI := hI.drop
              have hI := hI.drop
              have hI := hI.drop
              have hI := hI.drop
              have hI := hI.drop
              have e := someS h1
              subst e
              exact Qn.thenJ fun a ha => ⟨false, Z52, rfl, ha.keep [10] (by kernel_rfl), hI, (Hp.le_trans hle50 hle53)⟩
          ·
            rintro a w ⟨x48, Z46, rfl, ha, hI, hle47⟩
            try dsimp only at h0
            refine CodT.of ?_ ha
            refine CodT.ret ?_
            have e := someS h0
            subst e
            refine Qn.keep [10] (S' := [(10, .bool x48)]) (by kernel_rfl) ?_
            exact post_ret (v := .bool x48) (fun a ha => RunRes.run (vs := [.bool x48]) (.tmp (t := 10) (by kernel_rfl) .nil) ha (by kernel_rfl)) ⟨rfl, hI.weaken hle47⟩
end Go.Cen
