/- The walk of the law FileReads, printed by a program of ours. -/
import Derived.Test.YthdoklobbcedcadDoorPx
import Derived.Test.YthdoklobbcedcadDoorWx3
set_option linter.unusedVariables false
set_option linter.unusedSimpArgs false
namespace Go.Cen
set_option maxRecDepth 100000 in
set_option maxHeartbeats 4000000 in
/-- cenotaph/cenotaphlaw08.FileReads -/
theorem c5 (w0 w : World) (Z : Hp) (A : HP) (hI : Inv w0 Z w A) (hT : Tabs Z) (a0_ID : Int) (a0_Name : ByteArray) (a0_Data : ByteArray) (a0_Sealed : Bool) (a0_Until : Int) (A_a0_Holds : Option Addr) (c_a0_Holds : Nat) (a0_Holds : (List ByteArray)) (hr_a0_Holds : RdS Z cS 1 A_a0_Holds c_a0_Holds a0_Holds) (a1 : Int) (a2 : Int) (a3 : Int) (r : Bool) (h0 : law08_FileReads a0_ID a0_Name a0_Data a0_Sealed a0_Until a0_Holds a1 a2 a3 = some r) :
    Calls prog 5 #[.agg ((([.int .i64 a0_ID, .string a0_Name, .string a0_Data, .bool a0_Sealed, .int .i64 a0_Until, .slice A_a0_Holds a0_Holds.length c_a0_Holds] : List Value))).toArray, .int .i64 a1, .int .i64 a2, .int .i64 a3] w (fun e w' => e = .returned (.bool r) ∧ Inv w0 Z w' A) := by
  have e4 := calls_intro (R := (fun e w' => e = .returned (.bool r) ∧ Inv w0 Z w' A)) (w := w) (args := [.agg ((([.int .i64 a0_ID, .string a0_Name, .string a0_Data, .bool a0_Sealed, .int .i64 a0_Until, .slice A_a0_Holds a0_Holds.length c_a0_Holds] : List Value))).toArray, .int .i64 a1, .int .i64 a2, .int .i64 a3]) (fn := Go.Proofs.Tryd.f5) 91 Go.Proofs.Tryd.func5 (by rfl) Go.Proofs.Tryd.ntmps5 (by kernel_rfl)
  refine e4 ?_
  clear e4
  unfold law08_FileReads at h0
  refine CodT.seq ?_
  refine CodT.regionL [0, 1] (by kernel_rfl) ?_
  refine OpsT.cons (Does.boxL (d := 4) (T := 24) (v := .agg ((([.int .i64 a0_ID, .string a0_Name, .string a0_Data, .bool a0_Sealed, .int .i64 a0_Until, .slice A_a0_Holds a0_Holds.length c_a0_Holds] : List Value))).toArray) ((([.int .i64 a0_ID, .string a0_Name, .string a0_Data, .bool a0_Sealed, .int .i64 a0_Until, .slice A_a0_Holds a0_Holds.length c_a0_Holds] : List Value))) (by kernel_rfl) hI (by kernel_rfl) ?_)
  intro b1 w hI
  refine OpsT.pures (r := []) [1] [1, 2, 3, 4] (S' := [(1, .int .i64 a1), (2, .int .i64 a2), (3, .int .i64 a3), (4, .pointer (some ⟨b1, 0, none⟩))]) (by kernel_rfl) ?_
  refine OpsT.done ?_
  refine Qn.then ?_
  refine CodT.seq ?_
  refine CodT.regionL [0, 1] (by kernel_rfl) ?_
  obtain ⟨y3, hc2, h0⟩ := bindS h0
  try dsimp only at h0
  refine OpsT.cons (Does.call (d := some 19) (n := 9) (vs := []) (by kernel_rfl) en9 (c9 w0 w _ _ hI hT _ hc2) ?_)
  rintro e w ⟨rfl, hI⟩
  refine ⟨_, rfl, ?_⟩
  refine OpsT.pures (r := []) [1] [1, 2, 3, 4, 9] (S' := [(1, .int .i64 a1), (2, .int .i64 a2), (3, .int .i64 a3), (4, .pointer (some ⟨b1, 0, none⟩)), (9, .bool y3)]) (by kernel_rfl) ?_
  refine OpsT.done ?_
  refine Qn.then ?_
  refine CodT.seq ?_
  refine CodT.seq ?_
  refine CodT.regionL [0, 1] (by kernel_rfl) ?_
  refine OpsT.pures (r := []) [0, 1] [1, 2, 3, 4, 9, 21] (S' := [(1, .int .i64 a1), (2, .int .i64 a2), (3, .int .i64 a3), (4, .pointer (some ⟨b1, 0, none⟩)), (9, .bool y3), (21, .bool (!y3))]) (by kernel_rfl) ?_
  refine OpsT.done ?_
  refine Qn.then ?_
  by_cases hb4 : (!y3) = true
  · rw [if_pos hb4] at h0
    refine CodT.yes' (b := !y3) (by kernel_rfl) hb4 ?_
    refine CodT.seq ?_
    refine CodT.regionL [0] (by kernel_rfl) ?_
    refine OpsT.pures (r := []) [0] [8] (S' := [(8, .bool false)]) (by kernel_rfl) ?_
    refine OpsT.done ?_
    refine Qn.then ?_
    refine CodT.ret ?_
    refine Qn.ret_then ?_
    have hI := hI.drop
    have e := someS h0
    subst e
    refine Qn.keep [8] (S' := [(8, .bool false)]) (by kernel_rfl) ?_
    exact post_ret (v := .bool false) (fun a ha => RunRes.run (vs := [.bool false]) (.tmp (t := 8) (by kernel_rfl) .nil) ha (by kernel_rfl)) ⟨rfl, hI⟩
  · rw [if_neg hb4] at h0
    refine CodT.no' (b := !y3) (by kernel_rfl) (by simpa using hb4) ?_
    refine CodT.skip ?_
    refine Qn.then ?_
    refine CodT.seq ?_
    refine CodT.regionL [0, 1, 2] (by kernel_rfl) ?_
    refine OpsT.cons (Does.yi (Yl.load (d := 22) (T := 24) (v := .agg ((([.int .i64 a0_ID, .string a0_Name, .string a0_Data, .bool a0_Sealed, .int .i64 a0_Until, .slice A_a0_Holds a0_Holds.length c_a0_Holds] : List Value))).toArray) (by kernel_rfl) (ldBN ty24 (l := (([.int .i64 a0_ID, .string a0_Name, .string a0_Data, .bool a0_Sealed, .int .i64 a0_Until, .slice A_a0_Holds a0_Holds.length c_a0_Holds] : List Value))) (o := 0) (cs := (([.int .i64 a0_ID, .string a0_Name, .string a0_Data, .bool a0_Sealed, .int .i64 a0_Until, .slice A_a0_Holds a0_Holds.length c_a0_Holds] : List Value))) (ent_refl _) (by kernel_rfl) (whole _ _ (by kernel_rfl)))) hI ?_)
    obtain ⟨y6, hc5, h0⟩ := bindS h0
    try dsimp only at h0
    refine OpsT.cons (Does.call (d := some 23) (n := 10) (vs := [.agg ((([.int .i64 a0_ID, .string a0_Name, .string a0_Data, .bool a0_Sealed, .int .i64 a0_Until, .slice A_a0_Holds a0_Holds.length c_a0_Holds] : List Value))).toArray]) (by kernel_rfl) en10 (c10 w0 w _ _ hI hT a0_ID a0_Name a0_Data a0_Sealed a0_Until A_a0_Holds c_a0_Holds a0_Holds hr_a0_Holds _ hc5) ?_)
    rintro e w ⟨rfl, hI⟩
    refine ⟨_, rfl, ?_⟩
    refine OpsT.pures (r := []) [2] [1, 2, 3, 4, 9, 10] (S' := [(1, .int .i64 a1), (2, .int .i64 a2), (3, .int .i64 a3), (4, .pointer (some ⟨b1, 0, none⟩)), (9, .bool y3), (10, .bool y6)]) (by kernel_rfl) ?_
    refine OpsT.done ?_
    refine Qn.then ?_
    refine CodT.seq ?_
    refine CodT.seq ?_
    refine CodT.regionL [0, 1] (by kernel_rfl) ?_
    refine OpsT.pures (r := []) [0, 1] [1, 2, 3, 4, 9, 25] (S' := [(1, .int .i64 a1), (2, .int .i64 a2), (3, .int .i64 a3), (4, .pointer (some ⟨b1, 0, none⟩)), (9, .bool y3), (25, .bool (!y6))]) (by kernel_rfl) ?_
    refine OpsT.done ?_
    refine Qn.then ?_
    by_cases hb7 : (!y6) = true
    · rw [if_pos hb7] at h0
      refine CodT.yes' (b := !y6) (by kernel_rfl) hb7 ?_
      refine CodT.seq ?_
      refine CodT.regionL [0, 1] (by kernel_rfl) ?_
      refine OpsT.pures (r := []) [0, 1] [8] (S' := [(8, .bool y3)]) (by kernel_rfl) ?_
      refine OpsT.done ?_
      refine Qn.then ?_
      refine CodT.ret ?_
      refine Qn.ret_then ?_
      have hI := hI.drop
      have e := someS h0
      subst e
      refine Qn.keep [8] (S' := [(8, .bool y3)]) (by kernel_rfl) ?_
      exact post_ret (v := .bool y3) (fun a ha => RunRes.run (vs := [.bool y3]) (.tmp (t := 8) (by kernel_rfl) .nil) ha (by kernel_rfl)) ⟨rfl, hI⟩
    · rw [if_neg hb7] at h0
      refine CodT.no' (b := !y6) (by kernel_rfl) (by simpa using hb7) ?_
      refine CodT.skip ?_
      refine Qn.then ?_
      refine CodT.seq ?_
      refine CodT.regionL [0, 1, 2, 3, 4, 5, 6, 7, 8, 9] (by kernel_rfl) ?_
      refine OpsT.cons (Does.yi (Yl.load (d := 28) (T := 24) (v := .agg ((([.int .i64 a0_ID, .string a0_Name, .string a0_Data, .bool a0_Sealed, .int .i64 a0_Until, .slice A_a0_Holds a0_Holds.length c_a0_Holds] : List Value))).toArray) (by kernel_rfl) (ldBN ty24 (l := (([.int .i64 a0_ID, .string a0_Name, .string a0_Data, .bool a0_Sealed, .int .i64 a0_Until, .slice A_a0_Holds a0_Holds.length c_a0_Holds] : List Value))) (o := 0) (cs := (([.int .i64 a0_ID, .string a0_Name, .string a0_Data, .bool a0_Sealed, .int .i64 a0_Until, .slice A_a0_Holds a0_Holds.length c_a0_Holds] : List Value))) (ent_refl _) (by kernel_rfl) (whole _ _ (by kernel_rfl)))) hI ?_)
      refine OpsT.pures (r := [2, 3, 4, 5, 6, 7, 8, 9]) [1] [1, 2, 3, 4, 9, 28, 29] (S' := [(1, .int .i64 a1), (2, .int .i64 a2), (3, .int .i64 a3), (4, .pointer (some ⟨b1, 0, none⟩)), (9, .bool y3), (28, .agg ((([.int .i64 a0_ID, .string a0_Name, .string a0_Data, .bool a0_Sealed, .int .i64 a0_Until, .slice A_a0_Holds a0_Holds.length c_a0_Holds] : List Value))).toArray), (29, .pointer (some ⟨b1, 2, none⟩))]) (by kernel_rfl) ?_
      refine OpsT.cons (Does.yi (Yl.load (d := 30) (T := 9) (v := .string a0_Data) (by kernel_rfl) (ldB ty9 (l := (([.int .i64 a0_ID, .string a0_Name, .string a0_Data, .bool a0_Sealed, .int .i64 a0_Until, .slice A_a0_Holds a0_Holds.length c_a0_Holds] : List Value))) (o := 2) (v := .string a0_Data) (ent_refl _) (by kernel_rfl))) hI ?_)
      refine OpsT.pures (r := [4, 5, 6, 7, 8, 9]) [3] [1, 2, 3, 4, 9, 28, 31] (S' := [(1, .int .i64 a1), (2, .int .i64 a2), (3, .int .i64 a3), (4, .pointer (some ⟨b1, 0, none⟩)), (9, .bool y3), (28, .agg ((([.int .i64 a0_ID, .string a0_Name, .string a0_Data, .bool a0_Sealed, .int .i64 a0_Until, .slice A_a0_Holds a0_Holds.length c_a0_Holds] : List Value))).toArray), (31, .int .i64 (a0_Data.size : Int))]) (by kernel_rfl) ?_
      obtain ⟨⟨y9, y10⟩, hc8, h0⟩ := bindS h0
      try dsimp only at h0
      refine OpsT.cons (Does.call (d := some 32) (n := 11) (vs := [.agg ((([.int .i64 a0_ID, .string a0_Name, .string a0_Data, .bool a0_Sealed, .int .i64 a0_Until, .slice A_a0_Holds a0_Holds.length c_a0_Holds] : List Value))).toArray, .int .i64 0, .int .i64 (a0_Data.size : Int)]) (by kernel_rfl) en11 (c11 w0 w _ _ hI hT a0_ID a0_Name a0_Data a0_Sealed a0_Until A_a0_Holds c_a0_Holds a0_Holds hr_a0_Holds 0 (a0_Data.size : Int) _ hc8) ?_)
      rintro e w ⟨rfl, hI⟩
      refine ⟨_, rfl, ?_⟩
      refine OpsT.pures (r := []) [5, 6, 7, 8, 9] [1, 2, 3, 4, 9, 11, 12] (S' := [(1, .int .i64 a1), (2, .int .i64 a2), (3, .int .i64 a3), (4, .pointer (some ⟨b1, 0, none⟩)), (9, .bool y3), (11, .string y9), (12, .int .i64 y10)]) (by kernel_rfl) ?_
      refine OpsT.done ?_
      refine Qn.then ?_
      refine CodT.seq ?_
      obtain ⟨r1, h1, h0⟩ := bindS h0
      refine CodT.meet (fun a w => ∃ (x11 : Bool), x11 = r1 ∧ Fr 91 [(1, .int .i64 a1), (2, .int .i64 a2), (3, .int .i64 a3), (4, .pointer (some ⟨b1, 0, none⟩)), (9, .bool y3), (42, .bool x11)] a ∧ Inv w0 Z w (star (pt b1 (.cells ((([.int .i64 a0_ID, .string a0_Name, .string a0_Data, .bool a0_Sealed, .int .i64 a0_Until, .slice A_a0_Holds a0_Holds.length c_a0_Holds] : List Value))).toArray 24 (0, 0))) A)) ?_ ?_
      ·
        refine CodT.regionL [0, 1, 2, 3, 4, 5, 6, 7] (by kernel_rfl) ?_
        refine OpsT.pures (r := [3, 4, 5, 6, 7]) [0, 1, 2] [1, 2, 3, 4, 9, 11, 37] (S' := [(1, .int .i64 a1), (2, .int .i64 a2), (3, .int .i64 a3), (4, .pointer (some ⟨b1, 0, none⟩)), (9, .bool y3), (11, .string y9), (37, .bool (y10 != 0))]) (by kernel_rfl) ?_
        by_cases hb12 : (y10 != 0) = true
        · rw [if_pos hb12] at h1
          refine OpsT.keep [1, 2, 3, 4, 9, 11, 37] (S' := [(1, .int .i64 a1), (2, .int .i64 a2), (3, .int .i64 a3), (4, .pointer (some ⟨b1, 0, none⟩)), (9, .bool y3), (11, .string y9), (37, .bool true)]) (by (try simp only [hb12]); kernel_rfl) ?_
          refine OpsT.pures (r := []) [3, 4, 5, 6, 7] [1, 2, 3, 4, 9, 42] (S' := [(1, .int .i64 a1), (2, .int .i64 a2), (3, .int .i64 a3), (4, .pointer (some ⟨b1, 0, none⟩)), (9, .bool y3), (42, .bool true)]) (by kernel_rfl) ?_
          refine OpsT.done ?_
          have e := someS h1
          subst e
          exact Qn.thenJ fun a ha => ⟨true, rfl, ha.keep [1, 2, 3, 4, 9, 42] (by kernel_rfl), hI⟩
        · rw [if_neg hb12] at h1
          have hb12 : (y10 != 0) = false := by simpa using hb12
          refine OpsT.keep [1, 2, 3, 4, 9, 11, 37] (S' := [(1, .int .i64 a1), (2, .int .i64 a2), (3, .int .i64 a3), (4, .pointer (some ⟨b1, 0, none⟩)), (9, .bool y3), (11, .string y9), (37, .bool false)]) (by (try simp only [hb12]); kernel_rfl) ?_
          refine OpsT.pures (r := [5, 6, 7]) [3, 4] [1, 2, 3, 4, 9, 37, 38, 39] (S' := [(1, .int .i64 a1), (2, .int .i64 a2), (3, .int .i64 a3), (4, .pointer (some ⟨b1, 0, none⟩)), (9, .bool y3), (37, .bool false), (38, .string y9), (39, .pointer (some ⟨b1, 2, none⟩))]) (by kernel_rfl) ?_
          refine OpsT.cons (Does.yi (Yl.load (d := 40) (T := 9) (v := .string a0_Data) (by kernel_rfl) (ldB ty9 (l := (([.int .i64 a0_ID, .string a0_Name, .string a0_Data, .bool a0_Sealed, .int .i64 a0_Until, .slice A_a0_Holds a0_Holds.length c_a0_Holds] : List Value))) (o := 2) (v := .string a0_Data) (ent_refl _) (by kernel_rfl))) hI ?_)
          refine OpsT.pures (r := []) [6, 7] [1, 2, 3, 4, 9, 42] (S' := [(1, .int .i64 a1), (2, .int .i64 a2), (3, .int .i64 a3), (4, .pointer (some ⟨b1, 0, none⟩)), (9, .bool y3), (42, .bool (!(seq y9 a0_Data)))]) (by kernel_rfl) ?_
          refine OpsT.done ?_
          have e := someS h1
          subst e
          exact Qn.thenJ fun a ha => ⟨!(seq y9 a0_Data), rfl, ha.keep [1, 2, 3, 4, 9, 42] (by kernel_rfl), hI⟩
      ·
        rintro a w ⟨x11, rfl, ha, hI⟩
        try dsimp only at h0
        refine CodT.of ?_ ha
        by_cases hb13 : x11 = true
        · rw [if_pos hb13] at h0
          refine CodT.yes' (b := x11) (by kernel_rfl) hb13 ?_
          refine CodT.seq ?_
          refine CodT.regionL [0] (by kernel_rfl) ?_
          refine OpsT.pures (r := []) [0] [8] (S' := [(8, .bool false)]) (by kernel_rfl) ?_
          refine OpsT.done ?_
          refine Qn.then ?_
          refine CodT.ret ?_
          refine Qn.ret_then ?_
          have hI := hI.drop
          have e := someS h0
          subst e
          refine Qn.keep [8] (S' := [(8, .bool false)]) (by kernel_rfl) ?_
          exact post_ret (v := .bool false) (fun a ha => RunRes.run (vs := [.bool false]) (.tmp (t := 8) (by kernel_rfl) .nil) ha (by kernel_rfl)) ⟨rfl, hI⟩
        · rw [if_neg hb13] at h0
          refine CodT.no' (b := x11) (by kernel_rfl) (by simpa using hb13) ?_
          refine CodT.skip ?_
          refine Qn.then ?_
          refine CodT.seq ?_
          refine CodT.regionL [0, 1, 2, 3, 4, 5, 6, 7, 8] (by kernel_rfl) ?_
          refine OpsT.cons (Does.yi (Yl.load (d := 44) (T := 24) (v := .agg ((([.int .i64 a0_ID, .string a0_Name, .string a0_Data, .bool a0_Sealed, .int .i64 a0_Until, .slice A_a0_Holds a0_Holds.length c_a0_Holds] : List Value))).toArray) (by kernel_rfl) (ldBN ty24 (l := (([.int .i64 a0_ID, .string a0_Name, .string a0_Data, .bool a0_Sealed, .int .i64 a0_Until, .slice A_a0_Holds a0_Holds.length c_a0_Holds] : List Value))) (o := 0) (cs := (([.int .i64 a0_ID, .string a0_Name, .string a0_Data, .bool a0_Sealed, .int .i64 a0_Until, .slice A_a0_Holds a0_Holds.length c_a0_Holds] : List Value))) (ent_refl _) (by kernel_rfl) (whole _ _ (by kernel_rfl)))) hI ?_)
          refine OpsT.pures (r := [3, 4, 5, 6, 7, 8]) [1, 2] [1, 2, 3, 4, 9, 44, 45, 46] (S' := [(1, .int .i64 a1), (2, .int .i64 a2), (3, .int .i64 a3), (4, .pointer (some ⟨b1, 0, none⟩)), (9, .bool y3), (44, .agg ((([.int .i64 a0_ID, .string a0_Name, .string a0_Data, .bool a0_Sealed, .int .i64 a0_Until, .slice A_a0_Holds a0_Holds.length c_a0_Holds] : List Value))).toArray), (45, .int .i64 a1), (46, .int .i64 a2)]) (by kernel_rfl) ?_
          obtain ⟨⟨y15, y16⟩, hc14, h0⟩ := bindS h0
          try dsimp only at h0
          refine OpsT.cons (Does.call (d := some 47) (n := 11) (vs := [.agg ((([.int .i64 a0_ID, .string a0_Name, .string a0_Data, .bool a0_Sealed, .int .i64 a0_Until, .slice A_a0_Holds a0_Holds.length c_a0_Holds] : List Value))).toArray, .int .i64 a1, .int .i64 a2]) (by kernel_rfl) en11 (c11 w0 w _ _ hI hT a0_ID a0_Name a0_Data a0_Sealed a0_Until A_a0_Holds c_a0_Holds a0_Holds hr_a0_Holds a1 a2 _ hc14) ?_)
          rintro e w ⟨rfl, hI⟩
          refine ⟨_, rfl, ?_⟩
          refine OpsT.pures (r := []) [4, 5, 6, 7, 8] [1, 2, 3, 4, 9, 13, 14] (S' := [(1, .int .i64 a1), (2, .int .i64 a2), (3, .int .i64 a3), (4, .pointer (some ⟨b1, 0, none⟩)), (9, .bool y3), (13, .string y15), (14, .int .i64 y16)]) (by kernel_rfl) ?_
          refine OpsT.done ?_
          refine Qn.then ?_
          refine CodT.seq ?_
          refine CodT.regionL [0, 1, 2, 3, 4, 5, 6, 7, 8] (by kernel_rfl) ?_
          refine OpsT.cons (Does.yi (Yl.load (d := 51) (T := 24) (v := .agg ((([.int .i64 a0_ID, .string a0_Name, .string a0_Data, .bool a0_Sealed, .int .i64 a0_Until, .slice A_a0_Holds a0_Holds.length c_a0_Holds] : List Value))).toArray) (by kernel_rfl) (ldBN ty24 (l := (([.int .i64 a0_ID, .string a0_Name, .string a0_Data, .bool a0_Sealed, .int .i64 a0_Until, .slice A_a0_Holds a0_Holds.length c_a0_Holds] : List Value))) (o := 0) (cs := (([.int .i64 a0_ID, .string a0_Name, .string a0_Data, .bool a0_Sealed, .int .i64 a0_Until, .slice A_a0_Holds a0_Holds.length c_a0_Holds] : List Value))) (ent_refl _) (by kernel_rfl) (whole _ _ (by kernel_rfl)))) hI ?_)
          refine OpsT.pures (r := [3, 4, 5, 6, 7, 8]) [1, 2] [1, 3, 4, 9, 13, 14, 51, 52, 53] (S' := [(1, .int .i64 a1), (3, .int .i64 a3), (4, .pointer (some ⟨b1, 0, none⟩)), (9, .bool y3), (13, .string y15), (14, .int .i64 y16), (51, .agg ((([.int .i64 a0_ID, .string a0_Name, .string a0_Data, .bool a0_Sealed, .int .i64 a0_Until, .slice A_a0_Holds a0_Holds.length c_a0_Holds] : List Value))).toArray), (52, .int .i64 a2), (53, .int .i64 a3)]) (by kernel_rfl) ?_
          obtain ⟨⟨y18, y19⟩, hc17, h0⟩ := bindS h0
          try dsimp only at h0
          refine OpsT.cons (Does.call (d := some 54) (n := 11) (vs := [.agg ((([.int .i64 a0_ID, .string a0_Name, .string a0_Data, .bool a0_Sealed, .int .i64 a0_Until, .slice A_a0_Holds a0_Holds.length c_a0_Holds] : List Value))).toArray, .int .i64 a2, .int .i64 a3]) (by kernel_rfl) en11 (c11 w0 w _ _ hI hT a0_ID a0_Name a0_Data a0_Sealed a0_Until A_a0_Holds c_a0_Holds a0_Holds hr_a0_Holds a2 a3 _ hc17) ?_)
          rintro e w ⟨rfl, hI⟩
          refine ⟨_, rfl, ?_⟩
          refine OpsT.pures (r := []) [4, 5, 6, 7, 8] [1, 3, 4, 9, 13, 14, 15, 16] (S' := [(1, .int .i64 a1), (3, .int .i64 a3), (4, .pointer (some ⟨b1, 0, none⟩)), (9, .bool y3), (13, .string y15), (14, .int .i64 y16), (15, .string y18), (16, .int .i64 y19)]) (by kernel_rfl) ?_
          refine OpsT.done ?_
          refine Qn.then ?_
          refine CodT.seq ?_
          refine CodT.regionL [0, 1, 2, 3, 4, 5, 6, 7, 8] (by kernel_rfl) ?_
          refine OpsT.cons (Does.yi (Yl.load (d := 58) (T := 24) (v := .agg ((([.int .i64 a0_ID, .string a0_Name, .string a0_Data, .bool a0_Sealed, .int .i64 a0_Until, .slice A_a0_Holds a0_Holds.length c_a0_Holds] : List Value))).toArray) (by kernel_rfl) (ldBN ty24 (l := (([.int .i64 a0_ID, .string a0_Name, .string a0_Data, .bool a0_Sealed, .int .i64 a0_Until, .slice A_a0_Holds a0_Holds.length c_a0_Holds] : List Value))) (o := 0) (cs := (([.int .i64 a0_ID, .string a0_Name, .string a0_Data, .bool a0_Sealed, .int .i64 a0_Until, .slice A_a0_Holds a0_Holds.length c_a0_Holds] : List Value))) (ent_refl _) (by kernel_rfl) (whole _ _ (by kernel_rfl)))) hI ?_)
          refine OpsT.pures (r := [3, 4, 5, 6, 7, 8]) [1, 2] [1, 3, 9, 13, 14, 15, 16, 58, 59, 60] (S' := [(1, .int .i64 a1), (3, .int .i64 a3), (9, .bool y3), (13, .string y15), (14, .int .i64 y16), (15, .string y18), (16, .int .i64 y19), (58, .agg ((([.int .i64 a0_ID, .string a0_Name, .string a0_Data, .bool a0_Sealed, .int .i64 a0_Until, .slice A_a0_Holds a0_Holds.length c_a0_Holds] : List Value))).toArray), (59, .int .i64 a1), (60, .int .i64 a3)]) (by kernel_rfl) ?_
          obtain ⟨⟨y21, y22⟩, hc20, h0⟩ := bindS h0
          try dsimp only at h0
          refine OpsT.cons (Does.call (d := some 61) (n := 11) (vs := [.agg ((([.int .i64 a0_ID, .string a0_Name, .string a0_Data, .bool a0_Sealed, .int .i64 a0_Until, .slice A_a0_Holds a0_Holds.length c_a0_Holds] : List Value))).toArray, .int .i64 a1, .int .i64 a3]) (by kernel_rfl) en11 (c11 w0 w _ _ hI hT a0_ID a0_Name a0_Data a0_Sealed a0_Until A_a0_Holds c_a0_Holds a0_Holds hr_a0_Holds a1 a3 _ hc20) ?_)
          rintro e w ⟨rfl, hI⟩
          refine ⟨_, rfl, ?_⟩
          refine OpsT.pures (r := []) [4, 5, 6, 7, 8] [1, 3, 9, 13, 14, 15, 16, 17, 18] (S' := [(1, .int .i64 a1), (3, .int .i64 a3), (9, .bool y3), (13, .string y15), (14, .int .i64 y16), (15, .string y18), (16, .int .i64 y19), (17, .string y21), (18, .int .i64 y22)]) (by kernel_rfl) ?_
          refine OpsT.done ?_
          refine Qn.then ?_
          refine CodT.seq ?_
          obtain ⟨r1, h1, h0⟩ := bindS h0
          refine CodT.meet (fun a w => ∃ (x23 : Bool), x23 = r1 ∧ Fr 91 [(1, .int .i64 a1), (3, .int .i64 a3), (9, .bool y3), (13, .string y15), (15, .string y18), (17, .string y21), (18, .int .i64 y22), (69, .bool x23)] a ∧ Inv w0 Z w A) ?_ ?_
          ·
            refine CodT.regionL [0, 1, 2, 3, 4, 5] (by kernel_rfl) ?_
            refine OpsT.pures (r := [3, 4, 5]) [0, 1, 2] [1, 3, 9, 13, 15, 16, 17, 18, 66] (S' := [(1, .int .i64 a1), (3, .int .i64 a3), (9, .bool y3), (13, .string y15), (15, .string y18), (16, .int .i64 y19), (17, .string y21), (18, .int .i64 y22), (66, .bool (y16 != 0))]) (by kernel_rfl) ?_
            by_cases hb24 : (y16 != 0) = true
            · rw [if_pos hb24] at h1
              refine OpsT.keep [1, 3, 9, 13, 15, 16, 17, 18, 66] (S' := [(1, .int .i64 a1), (3, .int .i64 a3), (9, .bool y3), (13, .string y15), (15, .string y18), (16, .int .i64 y19), (17, .string y21), (18, .int .i64 y22), (66, .bool true)]) (by (try simp only [hb24]); kernel_rfl) ?_
              refine OpsT.pures (r := []) [3, 4, 5] [1, 3, 9, 13, 15, 17, 18, 69] (S' := [(1, .int .i64 a1), (3, .int .i64 a3), (9, .bool y3), (13, .string y15), (15, .string y18), (17, .string y21), (18, .int .i64 y22), (69, .bool true)]) (by kernel_rfl) ?_
              refine OpsT.done ?_
              have hI := hI.drop
              have e := someS h1
              subst e
              exact Qn.thenJ fun a ha => ⟨true, rfl, ha.keep [1, 3, 9, 13, 15, 17, 18, 69] (by kernel_rfl), hI⟩
            · rw [if_neg hb24] at h1
              have hb24 : (y16 != 0) = false := by simpa using hb24
              refine OpsT.keep [1, 3, 9, 13, 15, 16, 17, 18, 66] (S' := [(1, .int .i64 a1), (3, .int .i64 a3), (9, .bool y3), (13, .string y15), (15, .string y18), (16, .int .i64 y19), (17, .string y21), (18, .int .i64 y22), (66, .bool false)]) (by (try simp only [hb24]); kernel_rfl) ?_
              refine OpsT.pures (r := []) [3, 4, 5] [1, 3, 9, 13, 15, 17, 18, 69] (S' := [(1, .int .i64 a1), (3, .int .i64 a3), (9, .bool y3), (13, .string y15), (15, .string y18), (17, .string y21), (18, .int .i64 y22), (69, .bool (y19 != 0))]) (by kernel_rfl) ?_
              refine OpsT.done ?_
              have hI := hI.drop
              have e := someS h1
              subst e
              exact Qn.thenJ fun a ha => ⟨y19 != 0, rfl, ha.keep [1, 3, 9, 13, 15, 17, 18, 69] (by kernel_rfl), hI⟩
          ·
            rintro a w ⟨x23, rfl, ha, hI⟩
            try dsimp only at h0
            refine CodT.of ?_ ha
            by_cases hb25 : x23 = true
            · rw [if_pos hb25] at h0
              refine CodT.yes' (b := x23) (by kernel_rfl) hb25 ?_
              refine CodT.seq ?_
              refine CodT.regionL [0, 1] (by kernel_rfl) ?_
              refine OpsT.pures (r := []) [0, 1] [8] (S' := [(8, .bool y3)]) (by kernel_rfl) ?_
              refine OpsT.done ?_
              refine Qn.then ?_
              refine CodT.ret ?_
              refine Qn.ret_then ?_
              have e := someS h0
              subst e
              refine Qn.keep [8] (S' := [(8, .bool y3)]) (by kernel_rfl) ?_
              exact post_ret (v := .bool y3) (fun a ha => RunRes.run (vs := [.bool y3]) (.tmp (t := 8) (by kernel_rfl) .nil) ha (by kernel_rfl)) ⟨rfl, hI⟩
            · rw [if_neg hb25] at h0
              refine CodT.no' (b := x23) (by kernel_rfl) (by simpa using hb25) ?_
              refine CodT.skip ?_
              refine Qn.then ?_
              obtain ⟨r1, h1, h0⟩ := bindS h0
              refine CodT.meet (fun a w => ∃ (x26 : Bool), x26 = r1 ∧ Fr 91 [(8, .bool x26)] a ∧ Inv w0 Z w A) ?_ ?_
              ·
                refine CodT.regionL [0, 1, 2, 3, 4, 5, 6, 7, 8, 9, 10, 11, 12, 13, 14, 15, 16, 17, 18, 19, 20] (by kernel_rfl) ?_
                refine OpsT.pures (r := [2, 3, 4, 5, 6, 7, 8, 9, 10, 11, 12, 13, 14, 15, 16, 17, 18, 19, 20]) [0, 1] [1, 3, 13, 15, 17, 18, 72] (S' := [(1, .int .i64 a1), (3, .int .i64 a3), (13, .string y15), (15, .string y18), (17, .string y21), (18, .int .i64 y22), (72, .bool y3)]) (by kernel_rfl) ?_
                by_cases hb27 : y3 = true
                · rw [if_pos hb27] at h1
                  refine OpsT.keep [1, 3, 13, 15, 17, 18, 72] (S' := [(1, .int .i64 a1), (3, .int .i64 a3), (13, .string y15), (15, .string y18), (17, .string y21), (18, .int .i64 y22), (72, .bool true)]) (by (try simp only [hb27]); kernel_rfl) ?_
                  refine OpsT.pures (r := [6, 7, 8, 9, 10, 11, 12, 13, 14, 15, 16, 17, 18, 19, 20]) [2, 3, 4, 5] [1, 3, 13, 15, 17, 76] (S' := [(1, .int .i64 a1), (3, .int .i64 a3), (13, .string y15), (15, .string y18), (17, .string y21), (76, .bool (y22 == 0))]) (by kernel_rfl) ?_
                  by_cases hb28 : (y22 == 0) = true
                  · rw [if_pos hb28] at h1
                    refine OpsT.keep [1, 3, 13, 15, 17, 76] (S' := [(1, .int .i64 a1), (3, .int .i64 a3), (13, .string y15), (15, .string y18), (17, .string y21), (76, .bool true)]) (by (try simp only [hb28]); kernel_rfl) ?_
                    refine OpsT.pures (r := [8, 9, 10, 11, 12, 13, 14, 15, 16, 17, 18, 19, 20]) [6, 7] [1, 3, 17, 76, 77, 78] (S' := [(1, .int .i64 a1), (3, .int .i64 a3), (17, .string y21), (76, .bool true), (77, .string y15), (78, .string y18)]) (by kernel_rfl) ?_
                    obtain ⟨hg29, h1⟩ := guardS h1
                    refine OpsT.cons (Does.yi (Yl.cat (d := 79) (T := 9) (x := y15) (y := y18) (by kernel_rfl) hg29) hI ?_)
                    refine OpsT.pures (r := [13, 14, 15, 16, 17, 18, 19, 20]) [9, 10, 11, 12] [1, 3, 17, 83] (S' := [(1, .int .i64 a1), (3, .int .i64 a3), (17, .string y21), (83, .bool (seq (y15 ++ y18) y21))]) (by kernel_rfl) ?_
                    by_cases hb30 : (seq (y15 ++ y18) y21) = true
                    · rw [if_pos hb30] at h1
                      refine OpsT.keep [1, 3, 17, 83] (S' := [(1, .int .i64 a1), (3, .int .i64 a3), (17, .string y21), (83, .bool true)]) (by (try simp only [hb30]); kernel_rfl) ?_
                      refine OpsT.pures (r := []) [13, 14, 15, 16, 17, 18, 19, 20] [8] (S' := [(8, .bool ((y21.size : Int) == (wi64 (a3 - a1))))]) (by kernel_rfl) ?_
                      refine OpsT.done ?_
                      have e := someS h1
                      subst e
                      exact Qn.thenJ fun a ha => ⟨(y21.size : Int) == (wi64 (a3 - a1)), rfl, ha.keep [8] (by kernel_rfl), hI⟩
                    · rw [if_neg hb30] at h1
                      have hb30 : (seq (y15 ++ y18) y21) = false := by simpa using hb30
                      refine OpsT.keep [1, 3, 17, 83] (S' := [(1, .int .i64 a1), (3, .int .i64 a3), (17, .string y21), (83, .bool false)]) (by (try simp only [hb30]); kernel_rfl) ?_
                      refine OpsT.pures (r := []) [13, 14, 15, 16, 17, 18, 19, 20] [8] (S' := [(8, .bool false)]) (by kernel_rfl) ?_
                      refine OpsT.done ?_
                      have e := someS h1
                      subst e
                      exact Qn.thenJ fun a ha => ⟨false, rfl, ha.keep [8] (by kernel_rfl), hI⟩
                  · rw [if_neg hb28] at h1
                    have hb28 : (y22 == 0) = false := by simpa using hb28
                    refine OpsT.keep [1, 3, 13, 15, 17, 76] (S' := [(1, .int .i64 a1), (3, .int .i64 a3), (13, .string y15), (15, .string y18), (17, .string y21), (76, .bool false)]) (by (try simp only [hb28]); kernel_rfl) ?_
                    refine OpsT.pures (r := []) [6, 7, 8, 9, 10, 11, 12, 13, 14, 15, 16, 17, 18, 19, 20] [8] (S' := [(8, .bool false)]) (by kernel_rfl) ?_
                    refine OpsT.done ?_
                    have e := someS h1
                    subst e
                    exact Qn.thenJ fun a ha => ⟨false, rfl, ha.keep [8] (by kernel_rfl), hI⟩
                · rw [if_neg hb27] at h1
                  have hb27 : y3 = false := by simpa using hb27
                  refine OpsT.keep [1, 3, 13, 15, 17, 18, 72] (S' := [(1, .int .i64 a1), (3, .int .i64 a3), (13, .string y15), (15, .string y18), (17, .string y21), (18, .int .i64 y22), (72, .bool false)]) (by (try simp only [hb27]); kernel_rfl) ?_
                  refine OpsT.pures (r := []) [2, 3, 4, 5, 6, 7, 8, 9, 10, 11, 12, 13, 14, 15, 16, 17, 18, 19, 20] [8] (S' := [(8, .bool false)]) (by kernel_rfl) ?_
                  refine OpsT.done ?_
                  have e := someS h1
                  subst e
                  exact Qn.thenJ fun a ha => ⟨false, rfl, ha.keep [8] (by kernel_rfl), hI⟩
              ·
                rintro a w ⟨x26, rfl, ha, hI⟩
                try dsimp only at h0
                refine CodT.of ?_ ha
                refine CodT.ret ?_
                have e := someS h0
                subst e
                refine Qn.keep [8] (S' := [(8, .bool x26)]) (by kernel_rfl) ?_
                exact post_ret (v := .bool x26) (fun a ha => RunRes.run (vs := [.bool x26]) (.tmp (t := 8) (by kernel_rfl) .nil) ha (by kernel_rfl)) ⟨rfl, hI⟩
end Go.Cen
