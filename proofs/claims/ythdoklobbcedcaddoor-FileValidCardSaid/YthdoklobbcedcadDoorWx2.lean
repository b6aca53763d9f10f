/- That the machine computes these: walks, printed by a program of ours. -/
import Derived.Test.YthdoklobbcedcadDoorPx
import Derived.Test.YthdoklobbcedcadDoorWx1
set_option linter.unusedVariables false
set_option linter.unusedSimpArgs false
namespace Go.Cen
set_option maxRecDepth 100000 in
set_option maxHeartbeats 4000000 in
/-- cenotaph/file.Do -/
theorem c20 (w0 w : World) (Z : Hp) (A : HP) (hI : Inv w0 Z w A) (hT : Tabs Z) (a0_ID : Int) (a0_Name : ByteArray) (a0_Data : ByteArray) (a0_Sealed : Bool) (a0_Until : Int) (A_a0_Holds : Option Addr) (c_a0_Holds : Nat) (a0_Holds : (List ByteArray)) (hr_a0_Holds : RdS Z cS 1 A_a0_Holds c_a0_Holds a0_Holds) (a1 : ApiOp) (a2 : Int) (r : (Int × ByteArray × ByteArray × Bool × Int × (List ByteArray) × ApiEvent × Int)) (h0 : file_Do a0_ID a0_Name a0_Data a0_Sealed a0_Until a0_Holds a1 a2 = some r) :
    Calls prog 20 #[.agg ((([.int .i64 a0_ID, .string a0_Name, .string a0_Data, .bool a0_Sealed, .int .i64 a0_Until, .slice A_a0_Holds a0_Holds.length c_a0_Holds] : List Value))).toArray, .agg (c_ApiOp a1).toArray, .int .i64 a2] w (fun e w' => ∃ (A1 : Option Addr) (c1 : Nat) (Z' : Hp), Z.le Z' ∧ e = .returned (.tuple #[.agg ((([.int .i64 r.1, .string r.2.1, .string r.2.2.1, .bool r.2.2.2.1, .int .i64 r.2.2.2.2.1, .slice A1 r.2.2.2.2.2.1.length c1] : List Value))).toArray, .agg (c_ApiEvent r.2.2.2.2.2.2.1).toArray, .int .i64 r.2.2.2.2.2.2.2]) ∧ RdS Z' cS 1 A1 c1 r.2.2.2.2.2.1 ∧ r.2.2.2.2.2.2.1.Sum.length = 32 ∧ Inv w0 Z' w' A) := by
  have e4 := calls_intro (R := (fun e w' => ∃ (A1 : Option Addr) (c1 : Nat) (Z' : Hp), Z.le Z' ∧ e = .returned (.tuple #[.agg ((([.int .i64 r.1, .string r.2.1, .string r.2.2.1, .bool r.2.2.2.1, .int .i64 r.2.2.2.2.1, .slice A1 r.2.2.2.2.2.1.length c1] : List Value))).toArray, .agg (c_ApiEvent r.2.2.2.2.2.2.1).toArray, .int .i64 r.2.2.2.2.2.2.2]) ∧ RdS Z' cS 1 A1 c1 r.2.2.2.2.2.1 ∧ r.2.2.2.2.2.2.1.Sum.length = 32 ∧ Inv w0 Z' w' A)) (w := w) (args := [.agg ((([.int .i64 a0_ID, .string a0_Name, .string a0_Data, .bool a0_Sealed, .int .i64 a0_Until, .slice A_a0_Holds a0_Holds.length c_a0_Holds] : List Value))).toArray, .agg (c_ApiOp a1).toArray, .int .i64 a2]) (fn := Go.Proofs.Tryd.f20) 74 Go.Proofs.Tryd.func20 (by rfl) Go.Proofs.Tryd.ntmps20 (by kernel_rfl)
  refine e4 ?_
  clear e4
  unfold file_Do at h0
  refine CodT.seq ?_
  refine CodT.regionL [0, 1, 2, 3, 4] (by kernel_rfl) ?_
  refine OpsT.cons (Does.boxL (d := 3) (T := 24) (v := .agg ((([.int .i64 a0_ID, .string a0_Name, .string a0_Data, .bool a0_Sealed, .int .i64 a0_Until, .slice A_a0_Holds a0_Holds.length c_a0_Holds] : List Value))).toArray) ((([.int .i64 a0_ID, .string a0_Name, .string a0_Data, .bool a0_Sealed, .int .i64 a0_Until, .slice A_a0_Holds a0_Holds.length c_a0_Holds] : List Value))) (by kernel_rfl) hI (by kernel_rfl) ?_)
  intro b1 w hI
  refine OpsT.cons (Does.boxL (d := 4) (T := 43) (v := .agg (c_ApiOp a1).toArray) (c_ApiOp a1) (by kernel_rfl) hI (by kernel_rfl) ?_)
  intro b2 w hI
  refine OpsT.cons (Does.allocL (d := 6) (T := 24) ((([.int .i64 0, .string (⟨#[]⟩ : ByteArray), .string (⟨#[]⟩ : ByteArray), .bool false, .int .i64 0, .slice none 0 0] : List Value))) (by kernel_rfl) ty24 hI (by kernel_rfl) ?_)
  intro b3 w hI
  refine OpsT.cons (Does.allocL (d := 7) (T := 39) (c_ApiEvent (ApiEvent.mk 0 0 (⟨#[]⟩ : ByteArray) 0 0 (List.replicate 32 (0 : Int)))) (by kernel_rfl) ty39 hI (by kernel_rfl) ?_)
  intro b4 w hI
  refine OpsT.pures (r := []) [4] [2, 3, 4, 6, 7] (S' := [(2, .int .i64 a2), (3, .pointer (some ⟨b1, 0, none⟩)), (4, .pointer (some ⟨b2, 0, none⟩)), (6, .pointer (some ⟨b3, 0, none⟩)), (7, .pointer (some ⟨b4, 0, none⟩))]) (by kernel_rfl) ?_
  refine OpsT.done ?_
  refine Qn.then ?_
  refine CodT.seq ?_
  refine CodT.regionL [0, 1, 2, 3] (by kernel_rfl) ?_
  refine OpsT.cons (Does.yi (Yl.load (d := 15) (T := 24) (v := .agg ((([.int .i64 a0_ID, .string a0_Name, .string a0_Data, .bool a0_Sealed, .int .i64 a0_Until, .slice A_a0_Holds a0_Holds.length c_a0_Holds] : List Value))).toArray) (by kernel_rfl) (ldBN ty24 (l := (([.int .i64 a0_ID, .string a0_Name, .string a0_Data, .bool a0_Sealed, .int .i64 a0_Until, .slice A_a0_Holds a0_Holds.length c_a0_Holds] : List Value))) (o := 0) (cs := (([.int .i64 a0_ID, .string a0_Name, .string a0_Data, .bool a0_Sealed, .int .i64 a0_Until, .slice A_a0_Holds a0_Holds.length c_a0_Holds] : List Value))) (pick4 _ _ _ _ _) (by kernel_rfl) (whole _ _ (by kernel_rfl)))) hI ?_)
  refine OpsT.cons (Does.allocL (d := 9) (T := 24) ((([.int .i64 0, .string (⟨#[]⟩ : ByteArray), .string (⟨#[]⟩ : ByteArray), .bool false, .int .i64 0, .slice none 0 0] : List Value))) (by kernel_rfl) ty24 hI (by kernel_rfl) ?_)
  intro b5 w hI
  refine OpsT.cons (Does.storeLit (T := 24) (b := b5) (o := 0) (v := .agg ((([.int .i64 a0_ID, .string a0_Name, .string a0_Data, .bool a0_Sealed, .int .i64 a0_Until, .slice A_a0_Holds a0_Holds.length c_a0_Holds] : List Value))).toArray) (l := (([.int .i64 0, .string (⟨#[]⟩ : ByteArray), .string (⟨#[]⟩ : ByteArray), .bool false, .int .i64 0, .slice none 0 0] : List Value))) (vs := (([.int .i64 a0_ID, .string a0_Name, .string a0_Data, .bool a0_Sealed, .int .i64 a0_Until, .slice A_a0_Holds a0_Holds.length c_a0_Holds] : List Value))) (L' := (([.int .i64 a0_ID, .string a0_Name, .string a0_Data, .bool a0_Sealed, .int .i64 a0_Until, .slice A_a0_Holds a0_Holds.length c_a0_Holds] : List Value))) (by kernel_rfl) ty24 hI (by kernel_rfl) (by kernel_rfl) (by kernel_rfl) (by kernel_rfl) (by kernel_rfl) ?_)
  intro w hI
  refine OpsT.pures (r := []) [3] [2, 3, 4, 6, 7, 9, 10] (S' := [(2, .int .i64 a2), (3, .pointer (some ⟨b1, 0, none⟩)), (4, .pointer (some ⟨b2, 0, none⟩)), (6, .pointer (some ⟨b3, 0, none⟩)), (7, .pointer (some ⟨b4, 0, none⟩)), (9, .pointer (some ⟨b5, 0, none⟩)), (10, .int .i64 1)]) (by kernel_rfl) ?_
  refine OpsT.done ?_
  refine Qn.then ?_
  refine CodT.seq ?_
  refine CodT.drawI (n := 9) [] (by kernel_rfl) (by kernel_rfl) hI ?_
  intro w hI
  refine GmT.p' 1 18 (.pointer (some ⟨b2, 0, none⟩)) (by kernel_rfl) (by kernel_rfl) ?_
  refine GmT.r (i := 2) 2 (by kernel_rfl) (by kernel_rfl) (Yl.load (d := 19) (T := 35) (v := .int .i64 a1.Kind) (by kernel_rfl) (ldB ty35 (l := c_ApiOp a1) (o := 0) (v := .int .i64 a1.Kind) (pick4 _ _ _ _ _) (by kernel_rfl))) hI ?_
  obtain ⟨_, hc6, h0⟩ := bindS h0
  try dsimp only at h0
  refine GmT.o (i := 0) (by kernel_rfl) (Does.call (d := some 17) (n := 33) (vs := []) (by kernel_rfl) en33 (c33 w0 w _ _ hI hT _ hc6) ?_)
  rintro e w ⟨b7, rfl, hI⟩
  refine ⟨_, rfl, ?_⟩
  have hC := hI
  have hC := hC.drop
  refine ⟨fun _ _ => hC, ?_⟩
  by_cases hb8 : (a1.Kind == 1) = true
  · rw [if_pos hb8] at h0
    refine GmT.keep [2, 3, 4, 6, 7, 9, 10, 17, 19] (S' := [(2, .int .i64 a2), (3, .pointer (some ⟨b1, 0, none⟩)), (4, .pointer (some ⟨b2, 0, none⟩)), (6, .pointer (some ⟨b3, 0, none⟩)), (7, .pointer (some ⟨b4, 0, none⟩)), (9, .pointer (some ⟨b5, 0, none⟩)), (10, .int .i64 1), (17, .map (some b7)), (19, .int .i64 a1.Kind)]) (by (try simp only [hb8]); kernel_rfl) ?_
    refine GmT.o (i := 3) (by kernel_rfl) (Does.yi (Yl.lookup (d := 20) (mt := 61) (b := b7) (kv := (fun x : Int => Value.int .i64 x)) (vv := (fun v : Value => v)) (m := ([(1, .iface 65 (.func (.func 22) #[] #[])), (4, .iface 65 (.func (.func 44) #[] #[])), (5, .iface 65 (.func (.func 45) #[] #[])), (2, .iface 68 (.func (.func 46) #[] #[])), (3, .iface 68 (.func (.func 47) #[] #[])), (6, .iface 64 (.func (.func 38) #[] #[]))] : List (Int × Value))) (k := a1.Kind) (ok := true) (r := .tuple #[.iface 65 (.func (.func 22) #[] #[]), .bool true]) (by kernel_rfl) kt35 Go.Proofs.Tryd.underlying61 (.nilIface : Value) (fun w => by kernel_rfl) (fun w hC => hC.mono (ent_refl _)) (by have q0 : (a1.Kind == 1) = true := hb8; simp at q0; simp [mVal, mHas, q0])) hI ?_)
    refine ⟨fun _ h => h, ?_⟩
    refine GmT.p' 4 16 (.tuple #[.iface 65 (.func (.func 22) #[] #[]), .bool true]) (by kernel_rfl) (by kernel_rfl) ?_
    refine GmT.p' 5 21 (.iface 65 (.func (.func 22) #[] #[])) (by kernel_rfl) (by kernel_rfl) ?_
    refine GmT.p' 6 22 (.bool true) (by kernel_rfl) (by kernel_rfl) ?_
    refine GmT.p' 7 11 (.iface 65 (.func (.func 22) #[] #[])) (by kernel_rfl) (by kernel_rfl) ?_
    refine GmT.p' 8 12 (.bool true) (by kernel_rfl) (by kernel_rfl) ?_
    refine GmT.done (by kernel_rfl) ?_
    refine Qn.then ?_
    refine CodT.seq ?_
    refine CodT.block ?_
    refine CodT.seq ?_
    refine CodT.regionL [0, 1, 2, 3] (by kernel_rfl) ?_
    refine OpsT.pures (r := [1, 2, 3]) [0] [2, 3, 4, 6, 7, 9, 10, 11, 12, 24] (S' := [(2, .int .i64 a2), (3, .pointer (some ⟨b1, 0, none⟩)), (4, .pointer (some ⟨b2, 0, none⟩)), (6, .pointer (some ⟨b3, 0, none⟩)), (7, .pointer (some ⟨b4, 0, none⟩)), (9, .pointer (some ⟨b5, 0, none⟩)), (10, .int .i64 1), (11, .iface 65 (.func (.func 22) #[] #[])), (12, .bool true), (24, .pointer (some ⟨b2, 0, none⟩))]) (by kernel_rfl) ?_
    refine OpsT.cons (Does.yi (Yl.load (d := 25) (T := 35) (v := .int .i64 a1.Kind) (by kernel_rfl) (ldB ty35 (l := c_ApiOp a1) (o := 0) (v := .int .i64 a1.Kind) (pick5 _ _ _ _ _ _) (by kernel_rfl))) hI ?_)
    refine OpsT.pures (r := []) [2, 3] [2, 3, 4, 6, 7, 9, 10, 11, 12, 23] (S' := [(2, .int .i64 a2), (3, .pointer (some ⟨b1, 0, none⟩)), (4, .pointer (some ⟨b2, 0, none⟩)), (6, .pointer (some ⟨b3, 0, none⟩)), (7, .pointer (some ⟨b4, 0, none⟩)), (9, .pointer (some ⟨b5, 0, none⟩)), (10, .int .i64 1), (11, .iface 65 (.func (.func 22) #[] #[])), (12, .bool true), (23, .bool (a1.Kind == 0))]) (by kernel_rfl) ?_
    refine OpsT.done ?_
    refine Qn.then ?_
    refine CodT.no' (b := a1.Kind == 0) (by kernel_rfl) (by have h_ := hb8; simp at h_; simp [h_]) ?_
    refine CodT.seq ?_
    refine CodT.regionL [0, 1, 2, 3, 4, 5, 6] (by kernel_rfl) ?_
    refine OpsT.pures (r := [3, 4, 5, 6]) [0, 1, 2] [2, 3, 4, 6, 7, 9, 10, 11, 12, 29, 30] (S' := [(2, .int .i64 a2), (3, .pointer (some ⟨b1, 0, none⟩)), (4, .pointer (some ⟨b2, 0, none⟩)), (6, .pointer (some ⟨b3, 0, none⟩)), (7, .pointer (some ⟨b4, 0, none⟩)), (9, .pointer (some ⟨b5, 0, none⟩)), (10, .int .i64 1), (11, .iface 65 (.func (.func 22) #[] #[])), (12, .bool true), (29, .bool true), (30, .pointer (some ⟨b2, 0, none⟩))]) (by kernel_rfl) ?_
    refine OpsT.cons (Does.yi (Yl.load (d := 31) (T := 35) (v := .int .i64 a1.Kind) (by kernel_rfl) (ldB ty35 (l := c_ApiOp a1) (o := 0) (v := .int .i64 a1.Kind) (pick5 _ _ _ _ _ _) (by kernel_rfl))) hI ?_)
    refine OpsT.pures (r := []) [4, 5, 6] [2, 3, 4, 6, 7, 9, 10, 11, 12, 27] (S' := [(2, .int .i64 a2), (3, .pointer (some ⟨b1, 0, none⟩)), (4, .pointer (some ⟨b2, 0, none⟩)), (6, .pointer (some ⟨b3, 0, none⟩)), (7, .pointer (some ⟨b4, 0, none⟩)), (9, .pointer (some ⟨b5, 0, none⟩)), (10, .int .i64 1), (11, .iface 65 (.func (.func 22) #[] #[])), (12, .bool true), (27, .bool (a1.Kind == 6))]) (by kernel_rfl) ?_
    refine OpsT.done ?_
    refine Qn.then ?_
    refine CodT.no' (b := a1.Kind == 6) (by kernel_rfl) (by have h_ := hb8; simp at h_; simp [h_]) ?_
    refine CodT.seq ?_
    refine CodT.regionL [0, 1] (by kernel_rfl) ?_
    refine OpsT.pures (r := []) [0, 1] [3, 4, 6, 7, 9, 10, 11, 40] (S' := [(3, .pointer (some ⟨b1, 0, none⟩)), (4, .pointer (some ⟨b2, 0, none⟩)), (6, .pointer (some ⟨b3, 0, none⟩)), (7, .pointer (some ⟨b4, 0, none⟩)), (9, .pointer (some ⟨b5, 0, none⟩)), (10, .int .i64 1), (11, .iface 65 (.func (.func 22) #[] #[])), (40, .bool true)]) (by kernel_rfl) ?_
    refine OpsT.done ?_
    refine Qn.then ?_
    refine CodT.yes (by kernel_rfl) ?_
    refine CodT.seq ?_
    refine CodT.regionL [0, 1, 2, 3, 4, 5, 6] (by kernel_rfl) ?_
    refine OpsT.pures (r := []) [0, 1, 2, 3, 4, 5, 6] [3, 4, 6, 7, 9, 11, 13, 14] (S' := [(3, .pointer (some ⟨b1, 0, none⟩)), (4, .pointer (some ⟨b2, 0, none⟩)), (6, .pointer (some ⟨b3, 0, none⟩)), (7, .pointer (some ⟨b4, 0, none⟩)), (9, .pointer (some ⟨b5, 0, none⟩)), (11, .iface 65 (.func (.func 22) #[] #[])), (13, .func (.func 22) #[] #[]), (14, .bool true)]) (by kernel_rfl) ?_
    refine OpsT.done ?_
    refine Qn.then ?_
    refine CodT.seq ?_
    refine CodT.regionL [0] (by kernel_rfl) ?_
    refine OpsT.pures (r := []) [0] [3, 4, 6, 7, 9, 11, 13, 47] (S' := [(3, .pointer (some ⟨b1, 0, none⟩)), (4, .pointer (some ⟨b2, 0, none⟩)), (6, .pointer (some ⟨b3, 0, none⟩)), (7, .pointer (some ⟨b4, 0, none⟩)), (9, .pointer (some ⟨b5, 0, none⟩)), (11, .iface 65 (.func (.func 22) #[] #[])), (13, .func (.func 22) #[] #[]), (47, .bool true)]) (by kernel_rfl) ?_
    refine OpsT.done ?_
    refine Qn.then ?_
    refine CodT.yes (by kernel_rfl) ?_
    refine CodT.regionL [0, 1, 2, 3, 4, 5, 6, 7, 8, 9] (by kernel_rfl) ?_
    refine OpsT.pures (r := [1, 2, 3, 4, 5, 6, 7, 8, 9]) [0] [3, 4, 6, 7, 9, 49] (S' := [(3, .pointer (some ⟨b1, 0, none⟩)), (4, .pointer (some ⟨b2, 0, none⟩)), (6, .pointer (some ⟨b3, 0, none⟩)), (7, .pointer (some ⟨b4, 0, none⟩)), (9, .pointer (some ⟨b5, 0, none⟩)), (49, .func (.func 22) #[] #[])]) (by kernel_rfl) ?_
    refine OpsT.cons (Does.yi (Yl.load (d := 50) (T := 24) (v := .agg ((([.int .i64 a0_ID, .string a0_Name, .string a0_Data, .bool a0_Sealed, .int .i64 a0_Until, .slice A_a0_Holds a0_Holds.length c_a0_Holds] : List Value))).toArray) (by kernel_rfl) (ldBN ty24 (l := (([.int .i64 a0_ID, .string a0_Name, .string a0_Data, .bool a0_Sealed, .int .i64 a0_Until, .slice A_a0_Holds a0_Holds.length c_a0_Holds] : List Value))) (o := 0) (cs := (([.int .i64 a0_ID, .string a0_Name, .string a0_Data, .bool a0_Sealed, .int .i64 a0_Until, .slice A_a0_Holds a0_Holds.length c_a0_Holds] : List Value))) (pick6 _ _ _ _ _ _ _) (by kernel_rfl) (whole _ _ (by kernel_rfl)))) hI ?_)
    refine OpsT.pures (r := [3, 4, 5, 6, 7, 8, 9]) [2] [3, 4, 6, 7, 9, 49, 50, 51] (S' := [(3, .pointer (some ⟨b1, 0, none⟩)), (4, .pointer (some ⟨b2, 0, none⟩)), (6, .pointer (some ⟨b3, 0, none⟩)), (7, .pointer (some ⟨b4, 0, none⟩)), (9, .pointer (some ⟨b5, 0, none⟩)), (49, .func (.func 22) #[] #[]), (50, .agg ((([.int .i64 a0_ID, .string a0_Name, .string a0_Data, .bool a0_Sealed, .int .i64 a0_Until, .slice A_a0_Holds a0_Holds.length c_a0_Holds] : List Value))).toArray), (51, .pointer (some ⟨b2, 2, none⟩))]) (by kernel_rfl) ?_
    refine OpsT.cons (Does.yi (Yl.load (d := 52) (T := 9) (v := .string a1.Text) (by kernel_rfl) (ldB ty9 (l := c_ApiOp a1) (o := 2) (v := .string a1.Text) (pick5 _ _ _ _ _ _) (by kernel_rfl))) hI ?_)
    obtain ⟨⟨y10, y11, y12, y13, y14, y15, y19⟩, hc9, h0⟩ := bindS h0
    try dsimp only at h0
    refine OpsT.cons (Does.call (d := some 53) (n := 22) (vs := [.agg ((([.int .i64 a0_ID, .string a0_Name, .string a0_Data, .bool a0_Sealed, .int .i64 a0_Until, .slice A_a0_Holds a0_Holds.length c_a0_Holds] : List Value))).toArray, .string a1.Text]) (by kernel_rfl) en22 (c22 w0 w _ _ hI hT a0_ID a0_Name a0_Data a0_Sealed a0_Until A_a0_Holds c_a0_Holds a0_Holds hr_a0_Holds a1.Text _ hc9) ?_)
    rintro e w ⟨A16, cp17, Z20, hle21, rfl, hr18, hI⟩
    refine ⟨_, rfl, ?_⟩
    refine OpsT.pures (r := [8, 9]) [5, 6, 7] [3, 4, 6, 7, 9, 54, 55] (S' := [(3, .pointer (some ⟨b1, 0, none⟩)), (4, .pointer (some ⟨b2, 0, none⟩)), (6, .pointer (some ⟨b3, 0, none⟩)), (7, .pointer (some ⟨b4, 0, none⟩)), (9, .pointer (some ⟨b5, 0, none⟩)), (54, .agg ((([.int .i64 y10, .string y11, .string y12, .bool y13, .int .i64 y14, .slice A16 y15.length cp17] : List Value))).toArray), (55, .int .i64 y19)]) (by kernel_rfl) ?_
    have hI := hI.mono (pick2 _ _ _)
    refine OpsT.cons (Does.storeLit (T := 24) (b := b5) (o := 0) (v := .agg ((([.int .i64 y10, .string y11, .string y12, .bool y13, .int .i64 y14, .slice A16 y15.length cp17] : List Value))).toArray) (l := (([.int .i64 a0_ID, .string a0_Name, .string a0_Data, .bool a0_Sealed, .int .i64 a0_Until, .slice A_a0_Holds a0_Holds.length c_a0_Holds] : List Value))) (vs := (([.int .i64 y10, .string y11, .string y12, .bool y13, .int .i64 y14, .slice A16 y15.length cp17] : List Value))) (L' := (([.int .i64 y10, .string y11, .string y12, .bool y13, .int .i64 y14, .slice A16 y15.length cp17] : List Value))) (by kernel_rfl) ty24 hI (by kernel_rfl) (by kernel_rfl) (by kernel_rfl) (by kernel_rfl) (by kernel_rfl) ?_)
    intro w hI
    refine OpsT.pures (r := []) [9] [3, 4, 6, 7, 9, 10] (S' := [(3, .pointer (some ⟨b1, 0, none⟩)), (4, .pointer (some ⟨b2, 0, none⟩)), (6, .pointer (some ⟨b3, 0, none⟩)), (7, .pointer (some ⟨b4, 0, none⟩)), (9, .pointer (some ⟨b5, 0, none⟩)), (10, .int .i64 y19)]) (by kernel_rfl) ?_
    refine OpsT.done ?_
    refine Qn.block_normal ?_
    refine Qn.then ?_
    refine CodT.seq ?_
    refine CodT.seq ?_
    refine CodT.regionL [0, 1] (by kernel_rfl) ?_
    refine OpsT.pures (r := []) [0, 1] [3, 4, 6, 7, 9, 10, 66] (S' := [(3, .pointer (some ⟨b1, 0, none⟩)), (4, .pointer (some ⟨b2, 0, none⟩)), (6, .pointer (some ⟨b3, 0, none⟩)), (7, .pointer (some ⟨b4, 0, none⟩)), (9, .pointer (some ⟨b5, 0, none⟩)), (10, .int .i64 y19), (66, .bool (y19 != 0))]) (by kernel_rfl) ?_
    refine OpsT.done ?_
    refine Qn.then ?_
    by_cases hb22 : (y19 != 0) = true
    · rw [if_pos hb22] at h0
      refine CodT.yes' (b := y19 != 0) (by kernel_rfl) hb22 ?_
      refine CodT.seq ?_
      refine CodT.regionL [0, 1, 2, 3, 4, 5] (by kernel_rfl) ?_
      refine OpsT.cons (Does.yi (Yl.load (d := 67) (T := 24) (v := .agg ((([.int .i64 a0_ID, .string a0_Name, .string a0_Data, .bool a0_Sealed, .int .i64 a0_Until, .slice A_a0_Holds a0_Holds.length c_a0_Holds] : List Value))).toArray) (by kernel_rfl) (ldBN ty24 (l := (([.int .i64 a0_ID, .string a0_Name, .string a0_Data, .bool a0_Sealed, .int .i64 a0_Until, .slice A_a0_Holds a0_Holds.length c_a0_Holds] : List Value))) (o := 0) (cs := (([.int .i64 a0_ID, .string a0_Name, .string a0_Data, .bool a0_Sealed, .int .i64 a0_Until, .slice A_a0_Holds a0_Holds.length c_a0_Holds] : List Value))) (pick6 _ _ _ _ _ _ _) (by kernel_rfl) (whole _ _ (by kernel_rfl)))) hI ?_)
      refine OpsT.pures (r := [3, 4, 5]) [1, 2] [6, 7, 67, 68, 69] (S' := [(6, .pointer (some ⟨b3, 0, none⟩)), (7, .pointer (some ⟨b4, 0, none⟩)), (67, .agg ((([.int .i64 a0_ID, .string a0_Name, .string a0_Data, .bool a0_Sealed, .int .i64 a0_Until, .slice A_a0_Holds a0_Holds.length c_a0_Holds] : List Value))).toArray), (68, .agg (c_ApiEvent (ApiEvent.mk 0 0 (⟨#[]⟩ : ByteArray) 0 0 (List.replicate 32 (0 : Int)))).toArray), (69, .int .i64 y19)]) (by kernel_rfl) ?_
      have hI := hI.mono (pick4 _ _ _ _ _)
      refine OpsT.cons (Does.storeLit (T := 24) (b := b3) (o := 0) (v := .agg ((([.int .i64 a0_ID, .string a0_Name, .string a0_Data, .bool a0_Sealed, .int .i64 a0_Until, .slice A_a0_Holds a0_Holds.length c_a0_Holds] : List Value))).toArray) (l := (([.int .i64 0, .string (⟨#[]⟩ : ByteArray), .string (⟨#[]⟩ : ByteArray), .bool false, .int .i64 0, .slice none 0 0] : List Value))) (vs := (([.int .i64 a0_ID, .string a0_Name, .string a0_Data, .bool a0_Sealed, .int .i64 a0_Until, .slice A_a0_Holds a0_Holds.length c_a0_Holds] : List Value))) (L' := (([.int .i64 a0_ID, .string a0_Name, .string a0_Data, .bool a0_Sealed, .int .i64 a0_Until, .slice A_a0_Holds a0_Holds.length c_a0_Holds] : List Value))) (by kernel_rfl) ty24 hI (by kernel_rfl) (by kernel_rfl) (by kernel_rfl) (by kernel_rfl) (by kernel_rfl) ?_)
      intro w hI
      have hI := hI.mono (pick4 _ _ _ _ _)
      refine OpsT.cons (Does.storeLit (T := 39) (b := b4) (o := 0) (v := .agg (c_ApiEvent (ApiEvent.mk 0 0 (⟨#[]⟩ : ByteArray) 0 0 (List.replicate 32 (0 : Int)))).toArray) (l := c_ApiEvent (ApiEvent.mk 0 0 (⟨#[]⟩ : ByteArray) 0 0 (List.replicate 32 (0 : Int)))) (vs := c_ApiEvent (ApiEvent.mk 0 0 (⟨#[]⟩ : ByteArray) 0 0 (List.replicate 32 (0 : Int)))) (L' := c_ApiEvent (ApiEvent.mk 0 0 (⟨#[]⟩ : ByteArray) 0 0 (List.replicate 32 (0 : Int)))) (by kernel_rfl) ty39 hI (by kernel_rfl) (len_ApiEvent _ (by kernel_rfl)) (by rw [(len_ApiEvent _ (by kernel_rfl))]; kernel_rfl) (ones_app _ _ (by kernel_rfl) (ones_cA _)) (lset_all _ _ (Eq.trans (len_ApiEvent _ (by kernel_rfl)) (Eq.symm (len_ApiEvent _ (by kernel_rfl))))) ?_)
      intro w hI
      refine OpsT.pures (r := []) [5] [6, 7, 8] (S' := [(6, .pointer (some ⟨b3, 0, none⟩)), (7, .pointer (some ⟨b4, 0, none⟩)), (8, .int .i64 y19)]) (by kernel_rfl) ?_
      refine OpsT.done ?_
      refine Qn.then ?_
      refine CodT.ret ?_
      refine Qn.ret_then ?_
      have hL23 := (ldBN ty24 (l := (([.int .i64 a0_ID, .string a0_Name, .string a0_Data, .bool a0_Sealed, .int .i64 a0_Until, .slice A_a0_Holds a0_Holds.length c_a0_Holds] : List Value))) (o := 0) (cs := (([.int .i64 a0_ID, .string a0_Name, .string a0_Data, .bool a0_Sealed, .int .i64 a0_Until, .slice A_a0_Holds a0_Holds.length c_a0_Holds] : List Value))) (pick2 _ _ _) (by kernel_rfl) (whole _ _ (by kernel_rfl))) w hI
      have hL24 := (ldBN ty39 (l := c_ApiEvent (ApiEvent.mk 0 0 (⟨#[]⟩ : ByteArray) 0 0 (List.replicate 32 (0 : Int)))) (o := 0) (cs := c_ApiEvent (ApiEvent.mk 0 0 (⟨#[]⟩ : ByteArray) 0 0 (List.replicate 32 (0 : Int)))) (ent_refl _) (len_ApiEvent _ (by kernel_rfl)) (whole _ _ (len_ApiEvent _ (by kernel_rfl)))) w hI
      have hI := hI.drop
      have hI := hI.drop
      have hI := hI.drop
      have hI := hI.drop
      have hI := hI.drop
      have hI := hI.drop
      have e := someS h0
      subst e
      refine Qn.keep [6, 7, 8] (S' := [(6, .pointer (some ⟨b3, 0, none⟩)), (7, .pointer (some ⟨b4, 0, none⟩)), (8, .int .i64 y19)]) (by kernel_rfl) ?_
      exact post_ret (v := .tuple #[.agg ((([.int .i64 a0_ID, .string a0_Name, .string a0_Data, .bool a0_Sealed, .int .i64 a0_Until, .slice A_a0_Holds a0_Holds.length c_a0_Holds] : List Value))).toArray, .agg (c_ApiEvent (ApiEvent.mk 0 0 (⟨#[]⟩ : ByteArray) 0 0 (List.replicate 32 (0 : Int)))).toArray, .int .i64 y19]) (fun a ha => RunRes.run (vs := [.agg ((([.int .i64 a0_ID, .string a0_Name, .string a0_Data, .bool a0_Sealed, .int .i64 a0_Until, .slice A_a0_Holds a0_Holds.length c_a0_Holds] : List Value))).toArray, .agg (c_ApiEvent (ApiEvent.mk 0 0 (⟨#[]⟩ : ByteArray) 0 0 (List.replicate 32 (0 : Int)))).toArray, .int .i64 y19]) (.cell (t := 6) (T := 24) (ad := ⟨b3, 0, none⟩) (by kernel_rfl) hL23 (.cell (t := 7) (T := 39) (ad := ⟨b4, 0, none⟩) (by kernel_rfl) hL24 (.tmp (t := 8) (by kernel_rfl) .nil))) ha (by kernel_rfl)) ⟨A_a0_Holds, c_a0_Holds, Z20, hle21, rfl, (hr_a0_Holds.mono hle21), (by kernel_rfl), hI⟩
    · rw [if_neg hb22] at h0
      refine CodT.no' (b := y19 != 0) (by kernel_rfl) (by simpa using hb22) ?_
      refine CodT.skip ?_
      refine Qn.then ?_
      refine CodT.seq ?_
      refine CodT.drawI (n := 7) [4, 5] (by kernel_rfl) (by kernel_rfl) hI ?_
      intro w hI
      refine GmT.r (i := 0) 2 (by kernel_rfl) (by kernel_rfl) (Yl.load (d := 70) (T := 24) (v := .agg ((([.int .i64 y10, .string y11, .string y12, .bool y13, .int .i64 y14, .slice A16 y15.length cp17] : List Value))).toArray) (by kernel_rfl) (ldBN ty24 (l := (([.int .i64 y10, .string y11, .string y12, .bool y13, .int .i64 y14, .slice A16 y15.length cp17] : List Value))) (o := 0) (cs := (([.int .i64 y10, .string y11, .string y12, .bool y13, .int .i64 y14, .slice A16 y15.length cp17] : List Value))) (ent_refl _) (by kernel_rfl) (whole _ _ (by kernel_rfl)))) hI ?_
      refine GmT.r (i := 1) 3 (by kernel_rfl) (by kernel_rfl) (Yl.load (d := 71) (T := 24) (v := .agg ((([.int .i64 a0_ID, .string a0_Name, .string a0_Data, .bool a0_Sealed, .int .i64 a0_Until, .slice A_a0_Holds a0_Holds.length c_a0_Holds] : List Value))).toArray) (by kernel_rfl) (ldBN ty24 (l := (([.int .i64 a0_ID, .string a0_Name, .string a0_Data, .bool a0_Sealed, .int .i64 a0_Until, .slice A_a0_Holds a0_Holds.length c_a0_Holds] : List Value))) (o := 0) (cs := (([.int .i64 a0_ID, .string a0_Name, .string a0_Data, .bool a0_Sealed, .int .i64 a0_Until, .slice A_a0_Holds a0_Holds.length c_a0_Holds] : List Value))) (pick6 _ _ _ _ _ _ _) (by kernel_rfl) (whole _ _ (by kernel_rfl)))) hI ?_
      refine GmT.r (i := 2) 3 (by kernel_rfl) (by kernel_rfl) (Yl.load (d := 72) (T := 43) (v := .agg (c_ApiOp a1).toArray) (by kernel_rfl) (ldBN ty43 (l := c_ApiOp a1) (o := 0) (cs := c_ApiOp a1) (pick5 _ _ _ _ _ _) (by kernel_rfl) (whole _ _ (by kernel_rfl)))) hI ?_
      obtain ⟨y26, hc25, h0⟩ := bindS h0
      try dsimp only at h0
      refine GmT.o (i := 3) (by kernel_rfl) (Does.call (d := some 73) (n := 34) (vs := [.agg ((([.int .i64 a0_ID, .string a0_Name, .string a0_Data, .bool a0_Sealed, .int .i64 a0_Until, .slice A_a0_Holds a0_Holds.length c_a0_Holds] : List Value))).toArray, .agg (c_ApiOp a1).toArray]) (by kernel_rfl) en34 (c34 w0 w _ _ hI (hT.mono hle21) a0_ID a0_Name a0_Data a0_Sealed a0_Until A_a0_Holds c_a0_Holds a0_Holds (hr_a0_Holds.mono hle21) a1 _ hc25) ?_)
      rintro e w ⟨rfl, hl27, hI⟩
      refine ⟨_, rfl, ?_⟩
      refine ⟨fun _ _ => hI, ?_⟩
      have hI := hI.mono (pick4 _ _ _ _ _)
      refine GmT.o (i := 4) (by kernel_rfl) (Does.storeLit (T := 24) (b := b3) (o := 0) (v := .agg ((([.int .i64 y10, .string y11, .string y12, .bool y13, .int .i64 y14, .slice A16 y15.length cp17] : List Value))).toArray) (l := (([.int .i64 0, .string (⟨#[]⟩ : ByteArray), .string (⟨#[]⟩ : ByteArray), .bool false, .int .i64 0, .slice none 0 0] : List Value))) (vs := (([.int .i64 y10, .string y11, .string y12, .bool y13, .int .i64 y14, .slice A16 y15.length cp17] : List Value))) (L' := (([.int .i64 y10, .string y11, .string y12, .bool y13, .int .i64 y14, .slice A16 y15.length cp17] : List Value))) (by kernel_rfl) ty24 hI (by kernel_rfl) (by kernel_rfl) (by kernel_rfl) (by kernel_rfl) (by kernel_rfl) ?_)
      intro w hI
      refine ⟨fun h => absurd h (by decide), ?_⟩
      have hI := hI.mono (pick4 _ _ _ _ _)
      refine GmT.o (i := 5) (by kernel_rfl) (Does.storeLit (T := 39) (b := b4) (o := 0) (v := .agg (c_ApiEvent y26).toArray) (l := c_ApiEvent (ApiEvent.mk 0 0 (⟨#[]⟩ : ByteArray) 0 0 (List.replicate 32 (0 : Int)))) (vs := c_ApiEvent y26) (L' := c_ApiEvent y26) (by kernel_rfl) ty39 hI (by kernel_rfl) (len_ApiEvent _ hl27) (by rw [(len_ApiEvent _ (by kernel_rfl))]; kernel_rfl) (ones_app _ _ (by kernel_rfl) (ones_cA _)) (lset_all _ _ (Eq.trans (len_ApiEvent _ hl27) (Eq.symm (len_ApiEvent _ (by kernel_rfl))))) ?_)
      intro w hI
      refine ⟨fun h => absurd h (by decide), ?_⟩
      refine GmT.p' 6 8 (.int .i64 0) (by kernel_rfl) (by kernel_rfl) ?_
      refine GmT.done (by kernel_rfl) ?_
      refine Qn.then ?_
      refine CodT.ret ?_
      have hL28 := (ldBN ty24 (l := (([.int .i64 y10, .string y11, .string y12, .bool y13, .int .i64 y14, .slice A16 y15.length cp17] : List Value))) (o := 0) (cs := (([.int .i64 y10, .string y11, .string y12, .bool y13, .int .i64 y14, .slice A16 y15.length cp17] : List Value))) (pick2 _ _ _) (by kernel_rfl) (whole _ _ (by kernel_rfl))) w hI
      have hL29 := (ldBN ty39 (l := c_ApiEvent y26) (o := 0) (cs := c_ApiEvent y26) (ent_refl _) (len_ApiEvent _ hl27) (whole _ _ (len_ApiEvent _ hl27))) w hI
      have hI := hI.drop
      have hI := hI.drop
      have hI := hI.drop
      have hI := hI.drop
      have hI := hI.drop
      have hI := hI.drop
      have e := someS h0
      subst e
      refine Qn.keep [6, 7, 8] (S' := [(6, .pointer (some ⟨b3, 0, none⟩)), (7, .pointer (some ⟨b4, 0, none⟩)), (8, .int .i64 0)]) (by kernel_rfl) ?_
      exact post_ret (v := .tuple #[.agg ((([.int .i64 y10, .string y11, .string y12, .bool y13, .int .i64 y14, .slice A16 y15.length cp17] : List Value))).toArray, .agg (c_ApiEvent y26).toArray, .int .i64 0]) (fun a ha => RunRes.run (vs := [.agg ((([.int .i64 y10, .string y11, .string y12, .bool y13, .int .i64 y14, .slice A16 y15.length cp17] : List Value))).toArray, .agg (c_ApiEvent y26).toArray, .int .i64 0]) (.cell (t := 6) (T := 24) (ad := ⟨b3, 0, none⟩) (by kernel_rfl) hL28 (.cell (t := 7) (T := 39) (ad := ⟨b4, 0, none⟩) (by kernel_rfl) hL29 (.tmp (t := 8) (by kernel_rfl) .nil))) ha (by kernel_rfl)) ⟨A16, cp17, Z20, hle21, rfl, hr18, hl27, hI⟩
  · rw [if_neg hb8] at h0
    have hb8 : (a1.Kind == 1) = false := by simpa using hb8
    refine GmT.keep [2, 3, 4, 6, 7, 9, 10, 17, 19] (S' := [(2, .int .i64 a2), (3, .pointer (some ⟨b1, 0, none⟩)), (4, .pointer (some ⟨b2, 0, none⟩)), (6, .pointer (some ⟨b3, 0, none⟩)), (7, .pointer (some ⟨b4, 0, none⟩)), (9, .pointer (some ⟨b5, 0, none⟩)), (10, .int .i64 1), (17, .map (some b7)), (19, .int .i64 a1.Kind)]) (by (try simp only [hb8]); kernel_rfl) ?_
    by_cases hb30 : (a1.Kind == 4) = true
    · rw [if_pos hb30] at h0
      refine GmT.keep [2, 3, 4, 6, 7, 9, 10, 17, 19] (S' := [(2, .int .i64 a2), (3, .pointer (some ⟨b1, 0, none⟩)), (4, .pointer (some ⟨b2, 0, none⟩)), (6, .pointer (some ⟨b3, 0, none⟩)), (7, .pointer (some ⟨b4, 0, none⟩)), (9, .pointer (some ⟨b5, 0, none⟩)), (10, .int .i64 1), (17, .map (some b7)), (19, .int .i64 a1.Kind)]) (by (try simp only [hb30]); kernel_rfl) ?_
      refine GmT.o (i := 3) (by kernel_rfl) (Does.yi (Yl.lookup (d := 20) (mt := 61) (b := b7) (kv := (fun x : Int => Value.int .i64 x)) (vv := (fun v : Value => v)) (m := ([(1, .iface 65 (.func (.func 22) #[] #[])), (4, .iface 65 (.func (.func 44) #[] #[])), (5, .iface 65 (.func (.func 45) #[] #[])), (2, .iface 68 (.func (.func 46) #[] #[])), (3, .iface 68 (.func (.func 47) #[] #[])), (6, .iface 64 (.func (.func 38) #[] #[]))] : List (Int × Value))) (k := a1.Kind) (ok := true) (r := .tuple #[.iface 65 (.func (.func 44) #[] #[]), .bool true]) (by kernel_rfl) kt35 Go.Proofs.Tryd.underlying61 (.nilIface : Value) (fun w => by kernel_rfl) (fun w hC => hC.mono (ent_refl _)) (by have q0 : (a1.Kind == 4) = true := hb30; simp at q0; simp [mVal, mHas, q0])) hI ?_)
      refine ⟨fun _ h => h, ?_⟩
      refine GmT.p' 4 16 (.tuple #[.iface 65 (.func (.func 44) #[] #[]), .bool true]) (by kernel_rfl) (by kernel_rfl) ?_
      refine GmT.p' 5 21 (.iface 65 (.func (.func 44) #[] #[])) (by kernel_rfl) (by kernel_rfl) ?_
      refine GmT.p' 6 22 (.bool true) (by kernel_rfl) (by kernel_rfl) ?_
      refine GmT.p' 7 11 (.iface 65 (.func (.func 44) #[] #[])) (by kernel_rfl) (by kernel_rfl) ?_
      refine GmT.p' 8 12 (.bool true) (by kernel_rfl) (by kernel_rfl) ?_
      refine GmT.done (by kernel_rfl) ?_
      refine Qn.then ?_
      refine CodT.seq ?_
      refine CodT.block ?_
      refine CodT.seq ?_
      refine CodT.regionL [0, 1, 2, 3] (by kernel_rfl) ?_
      refine OpsT.pures (r := [1, 2, 3]) [0] [2, 3, 4, 6, 7, 9, 10, 11, 12, 24] (S' := [(2, .int .i64 a2), (3, .pointer (some ⟨b1, 0, none⟩)), (4, .pointer (some ⟨b2, 0, none⟩)), (6, .pointer (some ⟨b3, 0, none⟩)), (7, .pointer (some ⟨b4, 0, none⟩)), (9, .pointer (some ⟨b5, 0, none⟩)), (10, .int .i64 1), (11, .iface 65 (.func (.func 44) #[] #[])), (12, .bool true), (24, .pointer (some ⟨b2, 0, none⟩))]) (by kernel_rfl) ?_
      refine OpsT.cons (Does.yi (Yl.load (d := 25) (T := 35) (v := .int .i64 a1.Kind) (by kernel_rfl) (ldB ty35 (l := c_ApiOp a1) (o := 0) (v := .int .i64 a1.Kind) (pick5 _ _ _ _ _ _) (by kernel_rfl))) hI ?_)
      refine OpsT.pures (r := []) [2, 3] [2, 3, 4, 6, 7, 9, 10, 11, 12, 23] (S' := [(2, .int .i64 a2), (3, .pointer (some ⟨b1, 0, none⟩)), (4, .pointer (some ⟨b2, 0, none⟩)), (6, .pointer (some ⟨b3, 0, none⟩)), (7, .pointer (some ⟨b4, 0, none⟩)), (9, .pointer (some ⟨b5, 0, none⟩)), (10, .int .i64 1), (11, .iface 65 (.func (.func 44) #[] #[])), (12, .bool true), (23, .bool (a1.Kind == 0))]) (by kernel_rfl) ?_
      refine OpsT.done ?_
      refine Qn.then ?_
      refine CodT.no' (b := a1.Kind == 0) (by kernel_rfl) (by have h_ := hb30; simp at h_; simp [h_]) ?_
      refine CodT.seq ?_
      refine CodT.regionL [0, 1, 2, 3, 4, 5, 6] (by kernel_rfl) ?_
      refine OpsT.pures (r := [3, 4, 5, 6]) [0, 1, 2] [2, 3, 4, 6, 7, 9, 10, 11, 12, 29, 30] (S' := [(2, .int .i64 a2), (3, .pointer (some ⟨b1, 0, none⟩)), (4, .pointer (some ⟨b2, 0, none⟩)), (6, .pointer (some ⟨b3, 0, none⟩)), (7, .pointer (some ⟨b4, 0, none⟩)), (9, .pointer (some ⟨b5, 0, none⟩)), (10, .int .i64 1), (11, .iface 65 (.func (.func 44) #[] #[])), (12, .bool true), (29, .bool true), (30, .pointer (some ⟨b2, 0, none⟩))]) (by kernel_rfl) ?_
      refine OpsT.cons (Does.yi (Yl.load (d := 31) (T := 35) (v := .int .i64 a1.Kind) (by kernel_rfl) (ldB ty35 (l := c_ApiOp a1) (o := 0) (v := .int .i64 a1.Kind) (pick5 _ _ _ _ _ _) (by kernel_rfl))) hI ?_)
      refine OpsT.pures (r := []) [4, 5, 6] [2, 3, 4, 6, 7, 9, 10, 11, 12, 27] (S' := [(2, .int .i64 a2), (3, .pointer (some ⟨b1, 0, none⟩)), (4, .pointer (some ⟨b2, 0, none⟩)), (6, .pointer (some ⟨b3, 0, none⟩)), (7, .pointer (some ⟨b4, 0, none⟩)), (9, .pointer (some ⟨b5, 0, none⟩)), (10, .int .i64 1), (11, .iface 65 (.func (.func 44) #[] #[])), (12, .bool true), (27, .bool (a1.Kind == 6))]) (by kernel_rfl) ?_
      refine OpsT.done ?_
      refine Qn.then ?_
      refine CodT.no' (b := a1.Kind == 6) (by kernel_rfl) (by have h_ := hb30; simp at h_; simp [h_]) ?_
      refine CodT.seq ?_
      refine CodT.regionL [0, 1] (by kernel_rfl) ?_
      refine OpsT.pures (r := []) [0, 1] [3, 4, 6, 7, 9, 10, 11, 40] (S' := [(3, .pointer (some ⟨b1, 0, none⟩)), (4, .pointer (some ⟨b2, 0, none⟩)), (6, .pointer (some ⟨b3, 0, none⟩)), (7, .pointer (some ⟨b4, 0, none⟩)), (9, .pointer (some ⟨b5, 0, none⟩)), (10, .int .i64 1), (11, .iface 65 (.func (.func 44) #[] #[])), (40, .bool true)]) (by kernel_rfl) ?_
      refine OpsT.done ?_
      refine Qn.then ?_
      refine CodT.yes (by kernel_rfl) ?_
      refine CodT.seq ?_
      refine CodT.regionL [0, 1, 2, 3, 4, 5, 6] (by kernel_rfl) ?_
      refine OpsT.pures (r := []) [0, 1, 2, 3, 4, 5, 6] [3, 4, 6, 7, 9, 11, 13, 14] (S' := [(3, .pointer (some ⟨b1, 0, none⟩)), (4, .pointer (some ⟨b2, 0, none⟩)), (6, .pointer (some ⟨b3, 0, none⟩)), (7, .pointer (some ⟨b4, 0, none⟩)), (9, .pointer (some ⟨b5, 0, none⟩)), (11, .iface 65 (.func (.func 44) #[] #[])), (13, .func (.func 44) #[] #[]), (14, .bool true)]) (by kernel_rfl) ?_
      refine OpsT.done ?_
      refine Qn.then ?_
      refine CodT.seq ?_
      refine CodT.regionL [0] (by kernel_rfl) ?_
      refine OpsT.pures (r := []) [0] [3, 4, 6, 7, 9, 11, 13, 47] (S' := [(3, .pointer (some ⟨b1, 0, none⟩)), (4, .pointer (some ⟨b2, 0, none⟩)), (6, .pointer (some ⟨b3, 0, none⟩)), (7, .pointer (some ⟨b4, 0, none⟩)), (9, .pointer (some ⟨b5, 0, none⟩)), (11, .iface 65 (.func (.func 44) #[] #[])), (13, .func (.func 44) #[] #[]), (47, .bool true)]) (by kernel_rfl) ?_
      refine OpsT.done ?_
      refine Qn.then ?_
      refine CodT.yes (by kernel_rfl) ?_
      refine CodT.regionL [0, 1, 2, 3, 4, 5, 6, 7, 8, 9] (by kernel_rfl) ?_
      refine OpsT.pures (r := [1, 2, 3, 4, 5, 6, 7, 8, 9]) [0] [3, 4, 6, 7, 9, 49] (S' := [(3, .pointer (some ⟨b1, 0, none⟩)), (4, .pointer (some ⟨b2, 0, none⟩)), (6, .pointer (some ⟨b3, 0, none⟩)), (7, .pointer (some ⟨b4, 0, none⟩)), (9, .pointer (some ⟨b5, 0, none⟩)), (49, .func (.func 44) #[] #[])]) (by kernel_rfl) ?_
      refine OpsT.cons (Does.yi (Yl.load (d := 50) (T := 24) (v := .agg ((([.int .i64 a0_ID, .string a0_Name, .string a0_Data, .bool a0_Sealed, .int .i64 a0_Until, .slice A_a0_Holds a0_Holds.length c_a0_Holds] : List Value))).toArray) (by kernel_rfl) (ldBN ty24 (l := (([.int .i64 a0_ID, .string a0_Name, .string a0_Data, .bool a0_Sealed, .int .i64 a0_Until, .slice A_a0_Holds a0_Holds.length c_a0_Holds] : List Value))) (o := 0) (cs := (([.int .i64 a0_ID, .string a0_Name, .string a0_Data, .bool a0_Sealed, .int .i64 a0_Until, .slice A_a0_Holds a0_Holds.length c_a0_Holds] : List Value))) (pick6 _ _ _ _ _ _ _) (by kernel_rfl) (whole _ _ (by kernel_rfl)))) hI ?_)
      refine OpsT.pures (r := [3, 4, 5, 6, 7, 8, 9]) [2] [3, 4, 6, 7, 9, 49, 50, 51] (S' := [(3, .pointer (some ⟨b1, 0, none⟩)), (4, .pointer (some ⟨b2, 0, none⟩)), (6, .pointer (some ⟨b3, 0, none⟩)), (7, .pointer (some ⟨b4, 0, none⟩)), (9, .pointer (some ⟨b5, 0, none⟩)), (49, .func (.func 44) #[] #[]), (50, .agg ((([.int .i64 a0_ID, .string a0_Name, .string a0_Data, .bool a0_Sealed, .int .i64 a0_Until, .slice A_a0_Holds a0_Holds.length c_a0_Holds] : List Value))).toArray), (51, .pointer (some ⟨b2, 2, none⟩))]) (by kernel_rfl) ?_
      refine OpsT.cons (Does.yi (Yl.load (d := 52) (T := 9) (v := .string a1.Text) (by kernel_rfl) (ldB ty9 (l := c_ApiOp a1) (o := 2) (v := .string a1.Text) (pick5 _ _ _ _ _ _) (by kernel_rfl))) hI ?_)
      obtain ⟨⟨y32, y33, y34, y35, y36, y37, y41⟩, hc31, h0⟩ := bindS h0
      try dsimp only at h0
      refine OpsT.cons (Does.call (d := some 53) (n := 44) (vs := [.agg ((([.int .i64 a0_ID, .string a0_Name, .string a0_Data, .bool a0_Sealed, .int .i64 a0_Until, .slice A_a0_Holds a0_Holds.length c_a0_Holds] : List Value))).toArray, .string a1.Text]) (by kernel_rfl) en44 (c44 w0 w _ _ hI hT a0_ID a0_Name a0_Data a0_Sealed a0_Until A_a0_Holds c_a0_Holds a0_Holds hr_a0_Holds a1.Text _ hc31) ?_)
      rintro e w ⟨A38, cp39, Z42, hle43, rfl, hr40, hI⟩
      refine ⟨_, rfl, ?_⟩
      refine OpsT.pures (r := [8, 9]) [5, 6, 7] [3, 4, 6, 7, 9, 54, 55] (S' := [(3, .pointer (some ⟨b1, 0, none⟩)), (4, .pointer (some ⟨b2, 0, none⟩)), (6, .pointer (some ⟨b3, 0, none⟩)), (7, .pointer (some ⟨b4, 0, none⟩)), (9, .pointer (some ⟨b5, 0, none⟩)), (54, .agg ((([.int .i64 y32, .string y33, .string y34, .bool y35, .int .i64 y36, .slice A38 y37.length cp39] : List Value))).toArray), (55, .int .i64 y41)]) (by kernel_rfl) ?_
      have hI := hI.mono (pick2 _ _ _)
      refine OpsT.cons (Does.storeLit (T := 24) (b := b5) (o := 0) (v := .agg ((([.int .i64 y32, .string y33, .string y34, .bool y35, .int .i64 y36, .slice A38 y37.length cp39] : List Value))).toArray) (l := (([.int .i64 a0_ID, .string a0_Name, .string a0_Data, .bool a0_Sealed, .int .i64 a0_Until, .slice A_a0_Holds a0_Holds.length c_a0_Holds] : List Value))) (vs := (([.int .i64 y32, .string y33, .string y34, .bool y35, .int .i64 y36, .slice A38 y37.length cp39] : List Value))) (L' := (([.int .i64 y32, .string y33, .string y34, .bool y35, .int .i64 y36, .slice A38 y37.length cp39] : List Value))) (by kernel_rfl) ty24 hI (by kernel_rfl) (by kernel_rfl) (by kernel_rfl) (by kernel_rfl) (by kernel_rfl) ?_)
      intro w hI
      refine OpsT.pures (r := []) [9] [3, 4, 6, 7, 9, 10] (S' := [(3, .pointer (some ⟨b1, 0, none⟩)), (4, .pointer (some ⟨b2, 0, none⟩)), (6, .pointer (some ⟨b3, 0, none⟩)), (7, .pointer (some ⟨b4, 0, none⟩)), (9, .pointer (some ⟨b5, 0, none⟩)), (10, .int .i64 y41)]) (by kernel_rfl) ?_
      refine OpsT.done ?_
      refine Qn.block_normal ?_
      refine Qn.then ?_
      refine CodT.seq ?_
      refine CodT.seq ?_
      refine CodT.regionL [0, 1] (by kernel_rfl) ?_
      refine OpsT.pures (r := []) [0, 1] [3, 4, 6, 7, 9, 10, 66] (S' := [(3, .pointer (some ⟨b1, 0, none⟩)), (4, .pointer (some ⟨b2, 0, none⟩)), (6, .pointer (some ⟨b3, 0, none⟩)), (7, .pointer (some ⟨b4, 0, none⟩)), (9, .pointer (some ⟨b5, 0, none⟩)), (10, .int .i64 y41), (66, .bool (y41 != 0))]) (by kernel_rfl) ?_
      refine OpsT.done ?_
      refine Qn.then ?_
      by_cases hb44 : (y41 != 0) = true
      · rw [if_pos hb44] at h0
        refine CodT.yes' (b := y41 != 0) (by kernel_rfl) hb44 ?_
        refine CodT.seq ?_
        refine CodT.regionL [0, 1, 2, 3, 4, 5] (by kernel_rfl) ?_
        refine OpsT.cons (Does.yi (Yl.load (d := 67) (T := 24) (v := .agg ((([.int .i64 a0_ID, .string a0_Name, .string a0_Data, .bool a0_Sealed, .int .i64 a0_Until, .slice A_a0_Holds a0_Holds.length c_a0_Holds] : List Value))).toArray) (by kernel_rfl) (ldBN ty24 (l := (([.int .i64 a0_ID, .string a0_Name, .string a0_Data, .bool a0_Sealed, .int .i64 a0_Until, .slice A_a0_Holds a0_Holds.length c_a0_Holds] : List Value))) (o := 0) (cs := (([.int .i64 a0_ID, .string a0_Name, .string a0_Data, .bool a0_Sealed, .int .i64 a0_Until, .slice A_a0_Holds a0_Holds.length c_a0_Holds] : List Value))) (pick6 _ _ _ _ _ _ _) (by kernel_rfl) (whole _ _ (by kernel_rfl)))) hI ?_)
        refine OpsT.pures (r := [3, 4, 5]) [1, 2] [6, 7, 67, 68, 69] (S' := [(6, .pointer (some ⟨b3, 0, none⟩)), (7, .pointer (some ⟨b4, 0, none⟩)), (67, .agg ((([.int .i64 a0_ID, .string a0_Name, .string a0_Data, .bool a0_Sealed, .int .i64 a0_Until, .slice A_a0_Holds a0_Holds.length c_a0_Holds] : List Value))).toArray), (68, .agg (c_ApiEvent (ApiEvent.mk 0 0 (⟨#[]⟩ : ByteArray) 0 0 (List.replicate 32 (0 : Int)))).toArray), (69, .int .i64 y41)]) (by kernel_rfl) ?_
        have hI := hI.mono (pick4 _ _ _ _ _)
        refine OpsT.cons (Does.storeLit (T := 24) (b := b3) (o := 0) (v := .agg ((([.int .i64 a0_ID, .string a0_Name, .string a0_Data, .bool a0_Sealed, .int .i64 a0_Until, .slice A_a0_Holds a0_Holds.length c_a0_Holds] : List Value))).toArray) (l := (([.int .i64 0, .string (⟨#[]⟩ : ByteArray), .string (⟨#[]⟩ : ByteArray), .bool false, .int .i64 0, .slice none 0 0] : List Value))) (vs := (([.int .i64 a0_ID, .string a0_Name, .string a0_Data, .bool a0_Sealed, .int .i64 a0_Until, .slice A_a0_Holds a0_Holds.length c_a0_Holds] : List Value))) (L' := (([.int .i64 a0_ID, .string a0_Name, .string a0_Data, .bool a0_Sealed, .int .i64 a0_Until, .slice A_a0_Holds a0_Holds.length c_a0_Holds] : List Value))) (by kernel_rfl) ty24 hI (by kernel_rfl) (by kernel_rfl) (by kernel_rfl) (by kernel_rfl) (by kernel_rfl) ?_)
        intro w hI
        have hI := hI.mono (pick4 _ _ _ _ _)
        refine OpsT.cons (Does.storeLit (T := 39) (b := b4) (o := 0) (v := .agg (c_ApiEvent (ApiEvent.mk 0 0 (⟨#[]⟩ : ByteArray) 0 0 (List.replicate 32 (0 : Int)))).toArray) (l := c_ApiEvent (ApiEvent.mk 0 0 (⟨#[]⟩ : ByteArray) 0 0 (List.replicate 32 (0 : Int)))) (vs := c_ApiEvent (ApiEvent.mk 0 0 (⟨#[]⟩ : ByteArray) 0 0 (List.replicate 32 (0 : Int)))) (L' := c_ApiEvent (ApiEvent.mk 0 0 (⟨#[]⟩ : ByteArray) 0 0 (List.replicate 32 (0 : Int)))) (by kernel_rfl) ty39 hI (by kernel_rfl) (len_ApiEvent _ (by kernel_rfl)) (by rw [(len_ApiEvent _ (by kernel_rfl))]; kernel_rfl) (ones_app _ _ (by kernel_rfl) (ones_cA _)) (lset_all _ _ (Eq.trans (len_ApiEvent _ (by kernel_rfl)) (Eq.symm (len_ApiEvent _ (by kernel_rfl))))) ?_)
        intro w hI
        refine OpsT.pures (r := []) [5] [6, 7, 8] (S' := [(6, .pointer (some ⟨b3, 0, none⟩)), (7, .pointer (some ⟨b4, 0, none⟩)), (8, .int .i64 y41)]) (by kernel_rfl) ?_
        refine OpsT.done ?_
        refine Qn.then ?_
        refine CodT.ret ?_
        refine Qn.ret_then ?_
        have hL45 := (ldBN ty24 (l := (([.int .i64 a0_ID, .string a0_Name, .string a0_Data, .bool a0_Sealed, .int .i64 a0_Until, .slice A_a0_Holds a0_Holds.length c_a0_Holds] : List Value))) (o := 0) (cs := (([.int .i64 a0_ID, .string a0_Name, .string a0_Data, .bool a0_Sealed, .int .i64 a0_Until, .slice A_a0_Holds a0_Holds.length c_a0_Holds] : List Value))) (pick2 _ _ _) (by kernel_rfl) (whole _ _ (by kernel_rfl))) w hI
        have hL46 := (ldBN ty39 (l := c_ApiEvent (ApiEvent.mk 0 0 (⟨#[]⟩ : ByteArray) 0 0 (List.replicate 32 (0 : Int)))) (o := 0) (cs := c_ApiEvent (ApiEvent.mk 0 0 (⟨#[]⟩ : ByteArray) 0 0 (List.replicate 32 (0 : Int)))) (ent_refl _) (len_ApiEvent _ (by kernel_rfl)) (whole _ _ (len_ApiEvent _ (by kernel_rfl)))) w hI
        have hI := hI.drop
        have hI := hI.drop
        have hI := hI.drop
        have hI := hI.drop
        have hI := hI.drop
        have hI := hI.drop
        have e := someS h0
        subst e
        refine Qn.keep [6, 7, 8] (S' := [(6, .pointer (some ⟨b3, 0, none⟩)), (7, .pointer (some ⟨b4, 0, none⟩)), (8, .int .i64 y41)]) (by kernel_rfl) ?_
        exact post_ret (v := .tuple #[.agg ((([.int .i64 a0_ID, .string a0_Name, .string a0_Data, .bool a0_Sealed, .int .i64 a0_Until, .slice A_a0_Holds a0_Holds.length c_a0_Holds] : List Value))).toArray, .agg (c_ApiEvent (ApiEvent.mk 0 0 (⟨#[]⟩ : ByteArray) 0 0 (List.replicate 32 (0 : Int)))).toArray, .int .i64 y41]) (fun a ha => RunRes.run (vs := [.agg ((([.int .i64 a0_ID, .string a0_Name, .string a0_Data, .bool a0_Sealed, .int .i64 a0_Until, .slice A_a0_Holds a0_Holds.length c_a0_Holds] : List Value))).toArray, .agg (c_ApiEvent (ApiEvent.mk 0 0 (⟨#[]⟩ : ByteArray) 0 0 (List.replicate 32 (0 : Int)))).toArray, .int .i64 y41]) (.cell (t := 6) (T := 24) (ad := ⟨b3, 0, none⟩) (by kernel_rfl) hL45 (.cell (t := 7) (T := 39) (ad := ⟨b4, 0, none⟩) (by kernel_rfl) hL46 (.tmp (t := 8) (by kernel_rfl) .nil))) ha (by kernel_rfl)) ⟨A_a0_Holds, c_a0_Holds, Z42, hle43, rfl, (hr_a0_Holds.mono hle43), (by kernel_rfl), hI⟩
      · rw [if_neg hb44] at h0
        refine CodT.no' (b := y41 != 0) (by kernel_rfl) (by simpa using hb44) ?_
        refine CodT.skip ?_
        refine Qn.then ?_
        refine CodT.seq ?_
        refine CodT.drawI (n := 7) [4, 5] (by kernel_rfl) (by kernel_rfl) hI ?_
        intro w hI
        refine GmT.r (i := 0) 2 (by kernel_rfl) (by kernel_rfl) (Yl.load (d := 70) (T := 24) (v := .agg ((([.int .i64 y32, .string y33, .string y34, .bool y35, .int .i64 y36, .slice A38 y37.length cp39] : List Value))).toArray) (by kernel_rfl) (ldBN ty24 (l := (([.int .i64 y32, .string y33, .string y34, .bool y35, .int .i64 y36, .slice A38 y37.length cp39] : List Value))) (o := 0) (cs := (([.int .i64 y32, .string y33, .string y34, .bool y35, .int .i64 y36, .slice A38 y37.length cp39] : List Value))) (ent_refl _) (by kernel_rfl) (whole _ _ (by kernel_rfl)))) hI ?_
        refine GmT.r (i := 1) 3 (by kernel_rfl) (by kernel_rfl) (Yl.load (d := 71) (T := 24) (v := .agg ((([.int .i64 a0_ID, .string a0_Name, .string a0_Data, .bool a0_Sealed, .int .i64 a0_Until, .slice A_a0_Holds a0_Holds.length c_a0_Holds] : List Value))).toArray) (by kernel_rfl) (ldBN ty24 (l := (([.int .i64 a0_ID, .string a0_Name, .string a0_Data, .bool a0_Sealed, .int .i64 a0_Until, .slice A_a0_Holds a0_Holds.length c_a0_Holds] : List Value))) (o := 0) (cs := (([.int .i64 a0_ID, .string a0_Name, .string a0_Data, .bool a0_Sealed, .int .i64 a0_Until, .slice A_a0_Holds a0_Holds.length c_a0_Holds] : List Value))) (pick6 _ _ _ _ _ _ _) (by kernel_rfl) (whole _ _ (by kernel_rfl)))) hI ?_
        refine GmT.r (i := 2) 3 (by kernel_rfl) (by kernel_rfl) (Yl.load (d := 72) (T := 43) (v := .agg (c_ApiOp a1).toArray) (by kernel_rfl) (ldBN ty43 (l := c_ApiOp a1) (o := 0) (cs := c_ApiOp a1) (pick5 _ _ _ _ _ _) (by kernel_rfl) (whole _ _ (by kernel_rfl)))) hI ?_
        obtain ⟨y48, hc47, h0⟩ := bindS h0
        try dsimp only at h0
        refine GmT.o (i := 3) (by kernel_rfl) (Does.call (d := some 73) (n := 34) (vs := [.agg ((([.int .i64 a0_ID, .string a0_Name, .string a0_Data, .bool a0_Sealed, .int .i64 a0_Until, .slice A_a0_Holds a0_Holds.length c_a0_Holds] : List Value))).toArray, .agg (c_ApiOp a1).toArray]) (by kernel_rfl) en34 (c34 w0 w _ _ hI (hT.mono hle43) a0_ID a0_Name a0_Data a0_Sealed a0_Until A_a0_Holds c_a0_Holds a0_Holds (hr_a0_Holds.mono hle43) a1 _ hc47) ?_)
        rintro e w ⟨rfl, hl49, hI⟩
        refine ⟨_, rfl, ?_⟩
        refine ⟨fun _ _ => hI, ?_⟩
        have hI := hI.mono (pick4 _ _ _ _ _)
        refine GmT.o (i := 4) (by kernel_rfl) (Does.storeLit (T := 24) (b := b3) (o := 0) (v := .agg ((([.int .i64 y32, .string y33, .string y34, .bool y35, .int .i64 y36, .slice A38 y37.length cp39] : List Value))).toArray) (l := (([.int .i64 0, .string (⟨#[]⟩ : ByteArray), .string (⟨#[]⟩ : ByteArray), .bool false, .int .i64 0, .slice none 0 0] : List Value))) (vs := (([.int .i64 y32, .string y33, .string y34, .bool y35, .int .i64 y36, .slice A38 y37.length cp39] : List Value))) (L' := (([.int .i64 y32, .string y33, .string y34, .bool y35, .int .i64 y36, .slice A38 y37.length cp39] : List Value))) (by kernel_rfl) ty24 hI (by kernel_rfl) (by kernel_rfl) (by kernel_rfl) (by kernel_rfl) (by kernel_rfl) ?_)
        intro w hI
        refine ⟨fun h => absurd h (by decide), ?_⟩
        have hI := hI.mono (pick4 _ _ _ _ _)
        refine GmT.o (i := 5) (by kernel_rfl) (Does.storeLit (T := 39) (b := b4) (o := 0) (v := .agg (c_ApiEvent y48).toArray) (l := c_ApiEvent (ApiEvent.mk 0 0 (⟨#[]⟩ : ByteArray) 0 0 (List.replicate 32 (0 : Int)))) (vs := c_ApiEvent y48) (L' := c_ApiEvent y48) (by kernel_rfl) ty39 hI (by kernel_rfl) (len_ApiEvent _ hl49) (by rw [(len_ApiEvent _ (by kernel_rfl))]; kernel_rfl) (ones_app _ _ (by kernel_rfl) (ones_cA _)) (lset_all _ _ (Eq.trans (len_ApiEvent _ hl49) (Eq.symm (len_ApiEvent _ (by kernel_rfl))))) ?_)
        intro w hI
        refine ⟨fun h => absurd h (by decide), ?_⟩
        refine GmT.p' 6 8 (.int .i64 0) (by kernel_rfl) (by kernel_rfl) ?_
        refine GmT.done (by kernel_rfl) ?_
        refine Qn.then ?_
        refine CodT.ret ?_
        have hL50 := (ldBN ty24 (l := (([.int .i64 y32, .string y33, .string y34, .bool y35, .int .i64 y36, .slice A38 y37.length cp39] : List Value))) (o := 0) (cs := (([.int .i64 y32, .string y33, .string y34, .bool y35, .int .i64 y36, .slice A38 y37.length cp39] : List Value))) (pick2 _ _ _) (by kernel_rfl) (whole _ _ (by kernel_rfl))) w hI
        have hL51 := (ldBN ty39 (l := c_ApiEvent y48) (o := 0) (cs := c_ApiEvent y48) (ent_refl _) (len_ApiEvent _ hl49) (whole _ _ (len_ApiEvent _ hl49))) w hI
        have hI := hI.drop
        have hI := hI.drop
        have hI := hI.drop
        have hI := hI.drop
        have hI := hI.drop
        have hI := hI.drop
        have e := someS h0
        subst e
        refine Qn.keep [6, 7, 8] (S' := [(6, .pointer (some ⟨b3, 0, none⟩)), (7, .pointer (some ⟨b4, 0, none⟩)), (8, .int .i64 0)]) (by kernel_rfl) ?_
        exact post_ret (v := .tuple #[.agg ((([.int .i64 y32, .string y33, .string y34, .bool y35, .int .i64 y36, .slice A38 y37.length cp39] : List Value))).toArray, .agg (c_ApiEvent y48).toArray, .int .i64 0]) (fun a ha => RunRes.run (vs := [.agg ((([.int .i64 y32, .string y33, .string y34, .bool y35, .int .i64 y36, .slice A38 y37.length cp39] : List Value))).toArray, .agg (c_ApiEvent y48).toArray, .int .i64 0]) (.cell (t := 6) (T := 24) (ad := ⟨b3, 0, none⟩) (by kernel_rfl) hL50 (.cell (t := 7) (T := 39) (ad := ⟨b4, 0, none⟩) (by kernel_rfl) hL51 (.tmp (t := 8) (by kernel_rfl) .nil))) ha (by kernel_rfl)) ⟨A38, cp39, Z42, hle43, rfl, hr40, hl49, hI⟩
    · rw [if_neg hb30] at h0
      have hb30 : (a1.Kind == 4) = false := by simpa using hb30
      refine GmT.keep [2, 3, 4, 6, 7, 9, 10, 17, 19] (S' := [(2, .int .i64 a2), (3, .pointer (some ⟨b1, 0, none⟩)), (4, .pointer (some ⟨b2, 0, none⟩)), (6, .pointer (some ⟨b3, 0, none⟩)), (7, .pointer (some ⟨b4, 0, none⟩)), (9, .pointer (some ⟨b5, 0, none⟩)), (10, .int .i64 1), (17, .map (some b7)), (19, .int .i64 a1.Kind)]) (by (try simp only [hb30]); kernel_rfl) ?_
      by_cases hb52 : (a1.Kind == 5) = true
      · rw [if_pos hb52] at h0
        refine GmT.keep [2, 3, 4, 6, 7, 9, 10, 17, 19] (S' := [(2, .int .i64 a2), (3, .pointer (some ⟨b1, 0, none⟩)), (4, .pointer (some ⟨b2, 0, none⟩)), (6, .pointer (some ⟨b3, 0, none⟩)), (7, .pointer (some ⟨b4, 0, none⟩)), (9, .pointer (some ⟨b5, 0, none⟩)), (10, .int .i64 1), (17, .map (some b7)), (19, .int .i64 a1.Kind)]) (by (try simp only [hb52]); kernel_rfl) ?_
        refine GmT.o (i := 3) (by kernel_rfl) (Does.yi (Yl.lookup (d := 20) (mt := 61) (b := b7) (kv := (fun x : Int => Value.int .i64 x)) (vv := (fun v : Value => v)) (m := ([(1, .iface 65 (.func (.func 22) #[] #[])), (4, .iface 65 (.func (.func 44) #[] #[])), (5, .iface 65 (.func (.func 45) #[] #[])), (2, .iface 68 (.func (.func 46) #[] #[])), (3, .iface 68 (.func (.func 47) #[] #[])), (6, .iface 64 (.func (.func 38) #[] #[]))] : List (Int × Value))) (k := a1.Kind) (ok := true) (r := .tuple #[.iface 65 (.func (.func 45) #[] #[]), .bool true]) (by kernel_rfl) kt35 Go.Proofs.Tryd.underlying61 (.nilIface : Value) (fun w => by kernel_rfl) (fun w hC => hC.mono (ent_refl _)) (by have q0 : (a1.Kind == 5) = true := hb52; simp at q0; simp [mVal, mHas, q0])) hI ?_)
        refine ⟨fun _ h => h, ?_⟩
        refine GmT.p' 4 16 (.tuple #[.iface 65 (.func (.func 45) #[] #[]), .bool true]) (by kernel_rfl) (by kernel_rfl) ?_
        refine GmT.p' 5 21 (.iface 65 (.func (.func 45) #[] #[])) (by kernel_rfl) (by kernel_rfl) ?_
        refine GmT.p' 6 22 (.bool true) (by kernel_rfl) (by kernel_rfl) ?_
        refine GmT.p' 7 11 (.iface 65 (.func (.func 45) #[] #[])) (by kernel_rfl) (by kernel_rfl) ?_
        refine GmT.p' 8 12 (.bool true) (by kernel_rfl) (by kernel_rfl) ?_
        refine GmT.done (by kernel_rfl) ?_
        refine Qn.then ?_
        refine CodT.seq ?_
        refine CodT.block ?_
        refine CodT.seq ?_
        refine CodT.regionL [0, 1, 2, 3] (by kernel_rfl) ?_
        refine OpsT.pures (r := [1, 2, 3]) [0] [2, 3, 4, 6, 7, 9, 10, 11, 12, 24] (S' := [(2, .int .i64 a2), (3, .pointer (some ⟨b1, 0, none⟩)), (4, .pointer (some ⟨b2, 0, none⟩)), (6, .pointer (some ⟨b3, 0, none⟩)), (7, .pointer (some ⟨b4, 0, none⟩)), (9, .pointer (some ⟨b5, 0, none⟩)), (10, .int .i64 1), (11, .iface 65 (.func (.func 45) #[] #[])), (12, .bool true), (24, .pointer (some ⟨b2, 0, none⟩))]) (by kernel_rfl) ?_
        refine OpsT.cons (Does.yi (Yl.load (d := 25) (T := 35) (v := .int .i64 a1.Kind) (by kernel_rfl) (ldB ty35 (l := c_ApiOp a1) (o := 0) (v := .int .i64 a1.Kind) (pick5 _ _ _ _ _ _) (by kernel_rfl))) hI ?_)
        refine OpsT.pures (r := []) [2, 3] [2, 3, 4, 6, 7, 9, 10, 11, 12, 23] (S' := [(2, .int .i64 a2), (3, .pointer (some ⟨b1, 0, none⟩)), (4, .pointer (some ⟨b2, 0, none⟩)), (6, .pointer (some ⟨b3, 0, none⟩)), (7, .pointer (some ⟨b4, 0, none⟩)), (9, .pointer (some ⟨b5, 0, none⟩)), (10, .int .i64 1), (11, .iface 65 (.func (.func 45) #[] #[])), (12, .bool true), (23, .bool (a1.Kind == 0))]) (by kernel_rfl) ?_
        refine OpsT.done ?_
        refine Qn.then ?_
        refine CodT.no' (b := a1.Kind == 0) (by kernel_rfl) (by have h_ := hb52; simp at h_; simp [h_]) ?_
        refine CodT.seq ?_
        refine CodT.regionL [0, 1, 2, 3, 4, 5, 6] (by kernel_rfl) ?_
        refine OpsT.pures (r := [3, 4, 5, 6]) [0, 1, 2] [2, 3, 4, 6, 7, 9, 10, 11, 12, 29, 30] (S' := [(2, .int .i64 a2), (3, .pointer (some ⟨b1, 0, none⟩)), (4, .pointer (some ⟨b2, 0, none⟩)), (6, .pointer (some ⟨b3, 0, none⟩)), (7, .pointer (some ⟨b4, 0, none⟩)), (9, .pointer (some ⟨b5, 0, none⟩)), (10, .int .i64 1), (11, .iface 65 (.func (.func 45) #[] #[])), (12, .bool true), (29, .bool true), (30, .pointer (some ⟨b2, 0, none⟩))]) (by kernel_rfl) ?_
        refine OpsT.cons (Does.yi (Yl.load (d := 31) (T := 35) (v := .int .i64 a1.Kind) (by kernel_rfl) (ldB ty35 (l := c_ApiOp a1) (o := 0) (v := .int .i64 a1.Kind) (pick5 _ _ _ _ _ _) (by kernel_rfl))) hI ?_)
        refine OpsT.pures (r := []) [4, 5, 6] [2, 3, 4, 6, 7, 9, 10, 11, 12, 27] (S' := [(2, .int .i64 a2), (3, .pointer (some ⟨b1, 0, none⟩)), (4, .pointer (some ⟨b2, 0, none⟩)), (6, .pointer (some ⟨b3, 0, none⟩)), (7, .pointer (some ⟨b4, 0, none⟩)), (9, .pointer (some ⟨b5, 0, none⟩)), (10, .int .i64 1), (11, .iface 65 (.func (.func 45) #[] #[])), (12, .bool true), (27, .bool (a1.Kind == 6))]) (by kernel_rfl) ?_
        refine OpsT.done ?_
        refine Qn.then ?_
        refine CodT.no' (b := a1.Kind == 6) (by kernel_rfl) (by have h_ := hb52; simp at h_; simp [h_]) ?_
        refine CodT.seq ?_
        refine CodT.regionL [0, 1] (by kernel_rfl) ?_
        refine OpsT.pures (r := []) [0, 1] [3, 4, 6, 7, 9, 10, 11, 40] (S' := [(3, .pointer (some ⟨b1, 0, none⟩)), (4, .pointer (some ⟨b2, 0, none⟩)), (6, .pointer (some ⟨b3, 0, none⟩)), (7, .pointer (some ⟨b4, 0, none⟩)), (9, .pointer (some ⟨b5, 0, none⟩)), (10, .int .i64 1), (11, .iface 65 (.func (.func 45) #[] #[])), (40, .bool true)]) (by kernel_rfl) ?_
        refine OpsT.done ?_
        refine Qn.then ?_
        refine CodT.yes (by kernel_rfl) ?_
        refine CodT.seq ?_
        refine CodT.regionL [0, 1, 2, 3, 4, 5, 6] (by kernel_rfl) ?_
        refine OpsT.pures (r := []) [0, 1, 2, 3, 4, 5, 6] [3, 4, 6, 7, 9, 11, 13, 14] (S' := [(3, .pointer (some ⟨b1, 0, none⟩)), (4, .pointer (some ⟨b2, 0, none⟩)), (6, .pointer (some ⟨b3, 0, none⟩)), (7, .pointer (some ⟨b4, 0, none⟩)), (9, .pointer (some ⟨b5, 0, none⟩)), (11, .iface 65 (.func (.func 45) #[] #[])), (13, .func (.func 45) #[] #[]), (14, .bool true)]) (by kernel_rfl) ?_
        refine OpsT.done ?_
        refine Qn.then ?_
        refine CodT.seq ?_
        refine CodT.regionL [0] (by kernel_rfl) ?_
        refine OpsT.pures (r := []) [0] [3, 4, 6, 7, 9, 11, 13, 47] (S' := [(3, .pointer (some ⟨b1, 0, none⟩)), (4, .pointer (some ⟨b2, 0, none⟩)), (6, .pointer (some ⟨b3, 0, none⟩)), (7, .pointer (some ⟨b4, 0, none⟩)), (9, .pointer (some ⟨b5, 0, none⟩)), (11, .iface 65 (.func (.func 45) #[] #[])), (13, .func (.func 45) #[] #[]), (47, .bool true)]) (by kernel_rfl) ?_
        refine OpsT.done ?_
        refine Qn.then ?_
        refine CodT.yes (by kernel_rfl) ?_
        refine CodT.regionL [0, 1, 2, 3, 4, 5, 6, 7, 8, 9] (by kernel_rfl) ?_
        refine OpsT.pures (r := [1, 2, 3, 4, 5, 6, 7, 8, 9]) [0] [3, 4, 6, 7, 9, 49] (S' := [(3, .pointer (some ⟨b1, 0, none⟩)), (4, .pointer (some ⟨b2, 0, none⟩)), (6, .pointer (some ⟨b3, 0, none⟩)), (7, .pointer (some ⟨b4, 0, none⟩)), (9, .pointer (some ⟨b5, 0, none⟩)), (49, .func (.func 45) #[] #[])]) (by kernel_rfl) ?_
        refine OpsT.cons (Does.yi (Yl.load (d := 50) (T := 24) (v := .agg ((([.int .i64 a0_ID, .string a0_Name, .string a0_Data, .bool a0_Sealed, .int .i64 a0_Until, .slice A_a0_Holds a0_Holds.length c_a0_Holds] : List Value))).toArray) (by kernel_rfl) (ldBN ty24 (l := (([.int .i64 a0_ID, .string a0_Name, .string a0_Data, .bool a0_Sealed, .int .i64 a0_Until, .slice A_a0_Holds a0_Holds.length c_a0_Holds] : List Value))) (o := 0) (cs := (([.int .i64 a0_ID, .string a0_Name, .string a0_Data, .bool a0_Sealed, .int .i64 a0_Until, .slice A_a0_Holds a0_Holds.length c_a0_Holds] : List Value))) (pick6 _ _ _ _ _ _ _) (by kernel_rfl) (whole _ _ (by kernel_rfl)))) hI ?_)
        refine OpsT.pures (r := [3, 4, 5, 6, 7, 8, 9]) [2] [3, 4, 6, 7, 9, 49, 50, 51] (S' := [(3, .pointer (some ⟨b1, 0, none⟩)), (4, .pointer (some ⟨b2, 0, none⟩)), (6, .pointer (some ⟨b3, 0, none⟩)), (7, .pointer (some ⟨b4, 0, none⟩)), (9, .pointer (some ⟨b5, 0, none⟩)), (49, .func (.func 45) #[] #[]), (50, .agg ((([.int .i64 a0_ID, .string a0_Name, .string a0_Data, .bool a0_Sealed, .int .i64 a0_Until, .slice A_a0_Holds a0_Holds.length c_a0_Holds] : List Value))).toArray), (51, .pointer (some ⟨b2, 2, none⟩))]) (by kernel_rfl) ?_
        refine OpsT.cons (Does.yi (Yl.load (d := 52) (T := 9) (v := .string a1.Text) (by kernel_rfl) (ldB ty9 (l := c_ApiOp a1) (o := 2) (v := .string a1.Text) (pick5 _ _ _ _ _ _) (by kernel_rfl))) hI ?_)
        obtain ⟨⟨y54, y55, y56, y57, y58, y59, y63⟩, hc53, h0⟩ := bindS h0
        try dsimp only at h0
        refine OpsT.cons (Does.call (d := some 53) (n := 45) (vs := [.agg ((([.int .i64 a0_ID, .string a0_Name, .string a0_Data, .bool a0_Sealed, .int .i64 a0_Until, .slice A_a0_Holds a0_Holds.length c_a0_Holds] : List Value))).toArray, .string a1.Text]) (by kernel_rfl) en45 (c45 w0 w _ _ hI hT a0_ID a0_Name a0_Data a0_Sealed a0_Until A_a0_Holds c_a0_Holds a0_Holds hr_a0_Holds a1.Text _ hc53) ?_)
        rintro e w ⟨A60, cp61, Z64, hle65, rfl, hr62, hI⟩
        refine ⟨_, rfl, ?_⟩
        refine OpsT.pures (r := [8, 9]) [5, 6, 7] [3, 4, 6, 7, 9, 54, 55] (S' := [(3, .pointer (some ⟨b1, 0, none⟩)), (4, .pointer (some ⟨b2, 0, none⟩)), (6, .pointer (some ⟨b3, 0, none⟩)), (7, .pointer (some ⟨b4, 0, none⟩)), (9, .pointer (some ⟨b5, 0, none⟩)), (54, .agg ((([.int .i64 y54, .string y55, .string y56, .bool y57, .int .i64 y58, .slice A60 y59.length cp61] : List Value))).toArray), (55, .int .i64 y63)]) (by kernel_rfl) ?_
        have hI := hI.mono (pick2 _ _ _)
        refine OpsT.cons (Does.storeLit (T := 24) (b := b5) (o := 0) (v := .agg ((([.int .i64 y54, .string y55, .string y56, .bool y57, .int .i64 y58, .slice A60 y59.length cp61] : List Value))).toArray) (l := (([.int .i64 a0_ID, .string a0_Name, .string a0_Data, .bool a0_Sealed, .int .i64 a0_Until, .slice A_a0_Holds a0_Holds.length c_a0_Holds] : List Value))) (vs := (([.int .i64 y54, .string y55, .string y56, .bool y57, .int .i64 y58, .slice A60 y59.length cp61] : List Value))) (L' := (([.int .i64 y54, .string y55, .string y56, .bool y57, .int .i64 y58, .slice A60 y59.length cp61] : List Value))) (by kernel_rfl) ty24 hI (by kernel_rfl) (by kernel_rfl) (by kernel_rfl) (by kernel_rfl) (by kernel_rfl) ?_)
        intro w hI
        refine OpsT.pures (r := []) [9] [3, 4, 6, 7, 9, 10] (S' := [(3, .pointer (some ⟨b1, 0, none⟩)), (4, .pointer (some ⟨b2, 0, none⟩)), (6, .pointer (some ⟨b3, 0, none⟩)), (7, .pointer (some ⟨b4, 0, none⟩)), (9, .pointer (some ⟨b5, 0, none⟩)), (10, .int .i64 y63)]) (by kernel_rfl) ?_
        refine OpsT.done ?_
        refine Qn.block_normal ?_
        refine Qn.then ?_
        refine CodT.seq ?_
        refine CodT.seq ?_
        refine CodT.regionL [0, 1] (by kernel_rfl) ?_
        refine OpsT.pures (r := []) [0, 1] [3, 4, 6, 7, 9, 10, 66] (S' := [(3, .pointer (some ⟨b1, 0, none⟩)), (4, .pointer (some ⟨b2, 0, none⟩)), (6, .pointer (some ⟨b3, 0, none⟩)), (7, .pointer (some ⟨b4, 0, none⟩)), (9, .pointer (some ⟨b5, 0, none⟩)), (10, .int .i64 y63), (66, .bool (y63 != 0))]) (by kernel_rfl) ?_
        refine OpsT.done ?_
        refine Qn.then ?_
        by_cases hb66 : (y63 != 0) = true
        · rw [if_pos hb66] at h0
          refine CodT.yes' (b := y63 != 0) (by kernel_rfl) hb66 ?_
          refine CodT.seq ?_
          refine CodT.regionL [0, 1, 2, 3, 4, 5] (by kernel_rfl) ?_
          refine OpsT.cons (Does.yi (Yl.load (d := 67) (T := 24) (v := .agg ((([.int .i64 a0_ID, .string a0_Name, .string a0_Data, .bool a0_Sealed, .int .i64 a0_Until, .slice A_a0_Holds a0_Holds.length c_a0_Holds] : List Value))).toArray) (by kernel_rfl) (ldBN ty24 (l := (([.int .i64 a0_ID, .string a0_Name, .string a0_Data, .bool a0_Sealed, .int .i64 a0_Until, .slice A_a0_Holds a0_Holds.length c_a0_Holds] : List Value))) (o := 0) (cs := (([.int .i64 a0_ID, .string a0_Name, .string a0_Data, .bool a0_Sealed, .int .i64 a0_Until, .slice A_a0_Holds a0_Holds.length c_a0_Holds] : List Value))) (pick6 _ _ _ _ _ _ _) (by kernel_rfl) (whole _ _ (by kernel_rfl)))) hI ?_)
          refine OpsT.pures (r := [3, 4, 5]) [1, 2] [6, 7, 67, 68, 69] (S' := [(6, .pointer (some ⟨b3, 0, none⟩)), (7, .pointer (some ⟨b4, 0, none⟩)), (67, .agg ((([.int .i64 a0_ID, .string a0_Name, .string a0_Data, .bool a0_Sealed, .int .i64 a0_Until, .slice A_a0_Holds a0_Holds.length c_a0_Holds] : List Value))).toArray), (68, .agg (c_ApiEvent (ApiEvent.mk 0 0 (⟨#[]⟩ : ByteArray) 0 0 (List.replicate 32 (0 : Int)))).toArray), (69, .int .i64 y63)]) (by kernel_rfl) ?_
          have hI := hI.mono (pick4 _ _ _ _ _)
          refine OpsT.cons (Does.storeLit (T := 24) (b := b3) (o := 0) (v := .agg ((([.int .i64 a0_ID, .string a0_Name, .string a0_Data, .bool a0_Sealed, .int .i64 a0_Until, .slice A_a0_Holds a0_Holds.length c_a0_Holds] : List Value))).toArray) (l := (([.int .i64 0, .string (⟨#[]⟩ : ByteArray), .string (⟨#[]⟩ : ByteArray), .bool false, .int .i64 0, .slice none 0 0] : List Value))) (vs := (([.int .i64 a0_ID, .string a0_Name, .string a0_Data, .bool a0_Sealed, .int .i64 a0_Until, .slice A_a0_Holds a0_Holds.length c_a0_Holds] : List Value))) (L' := (([.int .i64 a0_ID, .string a0_Name, .string a0_Data, .bool a0_Sealed, .int .i64 a0_Until, .slice A_a0_Holds a0_Holds.length c_a0_Holds] : List Value))) (by kernel_rfl) ty24 hI (by kernel_rfl) (by kernel_rfl) (by kernel_rfl) (by kernel_rfl) (by kernel_rfl) ?_)
          intro w hI
          have hI := hI.mono (pick4 _ _ _ _ _)
          refine OpsT.cons (Does.storeLit (T := 39) (b := b4) (o := 0) (v := .agg (c_ApiEvent (ApiEvent.mk 0 0 (⟨#[]⟩ : ByteArray) 0 0 (List.replicate 32 (0 : Int)))).toArray) (l := c_ApiEvent (ApiEvent.mk 0 0 (⟨#[]⟩ : ByteArray) 0 0 (List.replicate 32 (0 : Int)))) (vs := c_ApiEvent (ApiEvent.mk 0 0 (⟨#[]⟩ : ByteArray) 0 0 (List.replicate 32 (0 : Int)))) (L' := c_ApiEvent (ApiEvent.mk 0 0 (⟨#[]⟩ : ByteArray) 0 0 (List.replicate 32 (0 : Int)))) (by kernel_rfl) ty39 hI (by kernel_rfl) (len_ApiEvent _ (by kernel_rfl)) (by rw [(len_ApiEvent _ (by kernel_rfl))]; kernel_rfl) (ones_app _ _ (by kernel_rfl) (ones_cA _)) (lset_all _ _ (Eq.trans (len_ApiEvent _ (by kernel_rfl)) (Eq.symm (len_ApiEvent _ (by kernel_rfl))))) ?_)
          intro w hI
          refine OpsT.pures (r := []) [5] [6, 7, 8] (S' := [(6, .pointer (some ⟨b3, 0, none⟩)), (7, .pointer (some ⟨b4, 0, none⟩)), (8, .int .i64 y63)]) (by kernel_rfl) ?_
          refine OpsT.done ?_
          refine Qn.then ?_
          refine CodT.ret ?_
          refine Qn.ret_then ?_
          have hL67 := (ldBN ty24 (l := (([.int .i64 a0_ID, .string a0_Name, .string a0_Data, .bool a0_Sealed, .int .i64 a0_Until, .slice A_a0_Holds a0_Holds.length c_a0_Holds] : List Value))) (o := 0) (cs := (([.int .i64 a0_ID, .string a0_Name, .string a0_Data, .bool a0_Sealed, .int .i64 a0_Until, .slice A_a0_Holds a0_Holds.length c_a0_Holds] : List Value))) (pick2 _ _ _) (by kernel_rfl) (whole _ _ (by kernel_rfl))) w hI
          have hL68 := (ldBN ty39 (l := c_ApiEvent (ApiEvent.mk 0 0 (⟨#[]⟩ : ByteArray) 0 0 (List.replicate 32 (0 : Int)))) (o := 0) (cs := c_ApiEvent (ApiEvent.mk 0 0 (⟨#[]⟩ : ByteArray) 0 0 (List.replicate 32 (0 : Int)))) (ent_refl _) (len_ApiEvent _ (by kernel_rfl)) (whole _ _ (len_ApiEvent _ (by kernel_rfl)))) w hI
          have hI := hI.drop
          have hI := hI.drop
          have hI := hI.drop
          have hI := hI.drop
          have hI := hI.drop
          have hI := hI.drop
          have e := someS h0
          subst e
          refine Qn.keep [6, 7, 8] (S' := [(6, .pointer (some ⟨b3, 0, none⟩)), (7, .pointer (some ⟨b4, 0, none⟩)), (8, .int .i64 y63)]) (by kernel_rfl) ?_
          exact post_ret (v := .tuple #[.agg ((([.int .i64 a0_ID, .string a0_Name, .string a0_Data, .bool a0_Sealed, .int .i64 a0_Until, .slice A_a0_Holds a0_Holds.length c_a0_Holds] : List Value))).toArray, .agg (c_ApiEvent (ApiEvent.mk 0 0 (⟨#[]⟩ : ByteArray) 0 0 (List.replicate 32 (0 : Int)))).toArray, .int .i64 y63]) (fun a ha => RunRes.run (vs := [.agg ((([.int .i64 a0_ID, .string a0_Name, .string a0_Data, .bool a0_Sealed, .int .i64 a0_Until, .slice A_a0_Holds a0_Holds.length c_a0_Holds] : List Value))).toArray, .agg (c_ApiEvent (ApiEvent.mk 0 0 (⟨#[]⟩ : ByteArray) 0 0 (List.replicate 32 (0 : Int)))).toArray, .int .i64 y63]) (.cell (t := 6) (T := 24) (ad := ⟨b3, 0, none⟩) (by kernel_rfl) hL67 (.cell (t := 7) (T := 39) (ad := ⟨b4, 0, none⟩) (by kernel_rfl) hL68 (.tmp (t := 8) (by kernel_rfl) .nil))) ha (by kernel_rfl)) ⟨A_a0_Holds, c_a0_Holds, Z64, hle65, rfl, (hr_a0_Holds.mono hle65), (by kernel_rfl), hI⟩
        · rw [if_neg hb66] at h0
          refine CodT.no' (b := y63 != 0) (by kernel_rfl) (by simpa using hb66) ?_
          refine CodT.skip ?_
          refine Qn.then ?_
          refine CodT.seq ?_
          refine CodT.drawI (n := 7) [4, 5] (by kernel_rfl) (by kernel_rfl) hI ?_
          intro w hI
          refine GmT.r (i := 0) 2 (by kernel_rfl) (by kernel_rfl) (Yl.load (d := 70) (T := 24) (v := .agg ((([.int .i64 y54, .string y55, .string y56, .bool y57, .int .i64 y58, .slice A60 y59.length cp61] : List Value))).toArray) (by kernel_rfl) (ldBN ty24 (l := (([.int .i64 y54, .string y55, .string y56, .bool y57, .int .i64 y58, .slice A60 y59.length cp61] : List Value))) (o := 0) (cs := (([.int .i64 y54, .string y55, .string y56, .bool y57, .int .i64 y58, .slice A60 y59.length cp61] : List Value))) (ent_refl _) (by kernel_rfl) (whole _ _ (by kernel_rfl)))) hI ?_
          refine GmT.r (i := 1) 3 (by kernel_rfl) (by kernel_rfl) (Yl.load (d := 71) (T := 24) (v := .agg ((([.int .i64 a0_ID, .string a0_Name, .string a0_Data, .bool a0_Sealed, .int .i64 a0_Until, .slice A_a0_Holds a0_Holds.length c_a0_Holds] : List Value))).toArray) (by kernel_rfl) (ldBN ty24 (l := (([.int .i64 a0_ID, .string a0_Name, .string a0_Data, .bool a0_Sealed, .int .i64 a0_Until, .slice A_a0_Holds a0_Holds.length c_a0_Holds] : List Value))) (o := 0) (cs := (([.int .i64 a0_ID, .string a0_Name, .string a0_Data, .bool a0_Sealed, .int .i64 a0_Until, .slice A_a0_Holds a0_Holds.length c_a0_Holds] : List Value))) (pick6 _ _ _ _ _ _ _) (by kernel_rfl) (whole _ _ (by kernel_rfl)))) hI ?_
          refine GmT.r (i := 2) 3 (by kernel_rfl) (by kernel_rfl) (Yl.load (d := 72) (T := 43) (v := .agg (c_ApiOp a1).toArray) (by kernel_rfl) (ldBN ty43 (l := c_ApiOp a1) (o := 0) (cs := c_ApiOp a1) (pick5 _ _ _ _ _ _) (by kernel_rfl) (whole _ _ (by kernel_rfl)))) hI ?_
          obtain ⟨y70, hc69, h0⟩ := bindS h0
          try dsimp only at h0
          refine GmT.o (i := 3) (by kernel_rfl) (Does.call (d := some 73) (n := 34) (vs := [.agg ((([.int .i64 a0_ID, .string a0_Name, .string a0_Data, .bool a0_Sealed, .int .i64 a0_Until, .slice A_a0_Holds a0_Holds.length c_a0_Holds] : List Value))).toArray, .agg (c_ApiOp a1).toArray]) (by kernel_rfl) en34 (c34 w0 w _ _ hI (hT.mono hle65) a0_ID a0_Name a0_Data a0_Sealed a0_Until A_a0_Holds c_a0_Holds a0_Holds (hr_a0_Holds.mono hle65) a1 _ hc69) ?_)
          rintro e w ⟨rfl, hl71, hI⟩
          refine ⟨_, rfl, ?_⟩
          refine ⟨fun _ _ => hI, ?_⟩
          have hI := hI.mono (pick4 _ _ _ _ _)
          refine GmT.o (i := 4) (by kernel_rfl) (Does.storeLit (T := 24) (b := b3) (o := 0) (v := .agg ((([.int .i64 y54, .string y55, .string y56, .bool y57, .int .i64 y58, .slice A60 y59.length cp61] : List Value))).toArray) (l := (([.int .i64 0, .string (⟨#[]⟩ : ByteArray), .string (⟨#[]⟩ : ByteArray), .bool false, .int .i64 0, .slice none 0 0] : List Value))) (vs := (([.int .i64 y54, .string y55, .string y56, .bool y57, .int .i64 y58, .slice A60 y59.length cp61] : List Value))) (L' := (([.int .i64 y54, .string y55, .string y56, .bool y57, .int .i64 y58, .slice A60 y59.length cp61] : List Value))) (by kernel_rfl) ty24 hI (by kernel_rfl) (by kernel_rfl) (by kernel_rfl) (by kernel_rfl) (by kernel_rfl) ?_)
          intro w hI
          refine ⟨fun h => absurd h (by decide), ?_⟩
          have hI := hI.mono (pick4 _ _ _ _ _)
          refine GmT.o (i := 5) (by kernel_rfl) (Does.storeLit (T := 39) (b := b4) (o := 0) (v := .agg (c_ApiEvent y70).toArray) (l := c_ApiEvent (ApiEvent.mk 0 0 (⟨#[]⟩ : ByteArray) 0 0 (List.replicate 32 (0 : Int)))) (vs := c_ApiEvent y70) (L' := c_ApiEvent y70) (by kernel_rfl) ty39 hI (by kernel_rfl) (len_ApiEvent _ hl71) (by rw [(len_ApiEvent _ (by kernel_rfl))]; kernel_rfl) (ones_app _ _ (by kernel_rfl) (ones_cA _)) (lset_all _ _ (Eq.trans (len_ApiEvent _ hl71) (Eq.symm (len_ApiEvent _ (by kernel_rfl))))) ?_)
          intro w hI
          refine ⟨fun h => absurd h (by decide), ?_⟩
          refine GmT.p' 6 8 (.int .i64 0) (by kernel_rfl) (by kernel_rfl) ?_
          refine GmT.done (by kernel_rfl) ?_
          refine Qn.then ?_
          refine CodT.ret ?_
          have hL72 := (ldBN ty24 (l := (([.int .i64 y54, .string y55, .string y56, .bool y57, .int .i64 y58, .slice A60 y59.length cp61] : List Value))) (o := 0) (cs := (([.int .i64 y54, .string y55, .string y56, .bool y57, .int .i64 y58, .slice A60 y59.length cp61] : List Value))) (pick2 _ _ _) (by kernel_rfl) (whole _ _ (by kernel_rfl))) w hI
          have hL73 := (ldBN ty39 (l := c_ApiEvent y70) (o := 0) (cs := c_ApiEvent y70) (ent_refl _) (len_ApiEvent _ hl71) (whole _ _ (len_ApiEvent _ hl71))) w hI
          have hI := hI.drop
          have hI := hI.drop
          have hI := hI.drop
          have hI := hI.drop
          have hI := hI.drop
          have hI := hI.drop
          have e := someS h0
          subst e
          refine Qn.keep [6, 7, 8] (S' := [(6, .pointer (some ⟨b3, 0, none⟩)), (7, .pointer (some ⟨b4, 0, none⟩)), (8, .int .i64 0)]) (by kernel_rfl) ?_
          exact post_ret (v := .tuple #[.agg ((([.int .i64 y54, .string y55, .string y56, .bool y57, .int .i64 y58, .slice A60 y59.length cp61] : List Value))).toArray, .agg (c_ApiEvent y70).toArray, .int .i64 0]) (fun a ha => RunRes.run (vs := [.agg ((([.int .i64 y54, .string y55, .string y56, .bool y57, .int .i64 y58, .slice A60 y59.length cp61] : List Value))).toArray, .agg (c_ApiEvent y70).toArray, .int .i64 0]) (.cell (t := 6) (T := 24) (ad := ⟨b3, 0, none⟩) (by kernel_rfl) hL72 (.cell (t := 7) (T := 39) (ad := ⟨b4, 0, none⟩) (by kernel_rfl) hL73 (.tmp (t := 8) (by kernel_rfl) .nil))) ha (by kernel_rfl)) ⟨A60, cp61, Z64, hle65, rfl, hr62, hl71, hI⟩
      · rw [if_neg hb52] at h0
        have hb52 : (a1.Kind == 5) = false := by simpa using hb52
        refine GmT.keep [2, 3, 4, 6, 7, 9, 10, 17, 19] (S' := [(2, .int .i64 a2), (3, .pointer (some ⟨b1, 0, none⟩)), (4, .pointer (some ⟨b2, 0, none⟩)), (6, .pointer (some ⟨b3, 0, none⟩)), (7, .pointer (some ⟨b4, 0, none⟩)), (9, .pointer (some ⟨b5, 0, none⟩)), (10, .int .i64 1), (17, .map (some b7)), (19, .int .i64 a1.Kind)]) (by (try simp only [hb52]); kernel_rfl) ?_
        by_cases hb74 : (a1.Kind == 2) = true
        · rw [if_pos hb74] at h0
          refine GmT.keep [2, 3, 4, 6, 7, 9, 10, 17, 19] (S' := [(2, .int .i64 a2), (3, .pointer (some ⟨b1, 0, none⟩)), (4, .pointer (some ⟨b2, 0, none⟩)), (6, .pointer (some ⟨b3, 0, none⟩)), (7, .pointer (some ⟨b4, 0, none⟩)), (9, .pointer (some ⟨b5, 0, none⟩)), (10, .int .i64 1), (17, .map (some b7)), (19, .int .i64 a1.Kind)]) (by (try simp only [hb74]); kernel_rfl) ?_
          refine GmT.o (i := 3) (by kernel_rfl) (Does.yi (Yl.lookup (d := 20) (mt := 61) (b := b7) (kv := (fun x : Int => Value.int .i64 x)) (vv := (fun v : Value => v)) (m := ([(1, .iface 65 (.func (.func 22) #[] #[])), (4, .iface 65 (.func (.func 44) #[] #[])), (5, .iface 65 (.func (.func 45) #[] #[])), (2, .iface 68 (.func (.func 46) #[] #[])), (3, .iface 68 (.func (.func 47) #[] #[])), (6, .iface 64 (.func (.func 38) #[] #[]))] : List (Int × Value))) (k := a1.Kind) (ok := true) (r := .tuple #[.iface 68 (.func (.func 46) #[] #[]), .bool true]) (by kernel_rfl) kt35 Go.Proofs.Tryd.underlying61 (.nilIface : Value) (fun w => by kernel_rfl) (fun w hC => hC.mono (ent_refl _)) (by have q0 : (a1.Kind == 2) = true := hb74; simp at q0; simp [mVal, mHas, q0])) hI ?_)
          refine ⟨fun _ h => h, ?_⟩
          refine GmT.p' 4 16 (.tuple #[.iface 68 (.func (.func 46) #[] #[]), .bool true]) (by kernel_rfl) (by kernel_rfl) ?_
          refine GmT.p' 5 21 (.iface 68 (.func (.func 46) #[] #[])) (by kernel_rfl) (by kernel_rfl) ?_
          refine GmT.p' 6 22 (.bool true) (by kernel_rfl) (by kernel_rfl) ?_
          refine GmT.p' 7 11 (.iface 68 (.func (.func 46) #[] #[])) (by kernel_rfl) (by kernel_rfl) ?_
          refine GmT.p' 8 12 (.bool true) (by kernel_rfl) (by kernel_rfl) ?_
          refine GmT.done (by kernel_rfl) ?_
          refine Qn.then ?_
          refine CodT.seq ?_
          refine CodT.block ?_
          refine CodT.seq ?_
          refine CodT.regionL [0, 1, 2, 3] (by kernel_rfl) ?_
          refine OpsT.pures (r := [1, 2, 3]) [0] [2, 3, 4, 6, 7, 9, 10, 11, 12, 24] (S' := [(2, .int .i64 a2), (3, .pointer (some ⟨b1, 0, none⟩)), (4, .pointer (some ⟨b2, 0, none⟩)), (6, .pointer (some ⟨b3, 0, none⟩)), (7, .pointer (some ⟨b4, 0, none⟩)), (9, .pointer (some ⟨b5, 0, none⟩)), (10, .int .i64 1), (11, .iface 68 (.func (.func 46) #[] #[])), (12, .bool true), (24, .pointer (some ⟨b2, 0, none⟩))]) (by kernel_rfl) ?_
          refine OpsT.cons (Does.yi (Yl.load (d := 25) (T := 35) (v := .int .i64 a1.Kind) (by kernel_rfl) (ldB ty35 (l := c_ApiOp a1) (o := 0) (v := .int .i64 a1.Kind) (pick5 _ _ _ _ _ _) (by kernel_rfl))) hI ?_)
          refine OpsT.pures (r := []) [2, 3] [2, 3, 4, 6, 7, 9, 10, 11, 12, 23] (S' := [(2, .int .i64 a2), (3, .pointer (some ⟨b1, 0, none⟩)), (4, .pointer (some ⟨b2, 0, none⟩)), (6, .pointer (some ⟨b3, 0, none⟩)), (7, .pointer (some ⟨b4, 0, none⟩)), (9, .pointer (some ⟨b5, 0, none⟩)), (10, .int .i64 1), (11, .iface 68 (.func (.func 46) #[] #[])), (12, .bool true), (23, .bool (a1.Kind == 0))]) (by kernel_rfl) ?_
          refine OpsT.done ?_
          refine Qn.then ?_
          refine CodT.no' (b := a1.Kind == 0) (by kernel_rfl) (by have h_ := hb74; simp at h_; simp [h_]) ?_
          refine CodT.seq ?_
          refine CodT.regionL [0, 1, 2, 3, 4, 5, 6] (by kernel_rfl) ?_
          refine OpsT.pures (r := [3, 4, 5, 6]) [0, 1, 2] [2, 3, 4, 6, 7, 9, 10, 11, 12, 29, 30] (S' := [(2, .int .i64 a2), (3, .pointer (some ⟨b1, 0, none⟩)), (4, .pointer (some ⟨b2, 0, none⟩)), (6, .pointer (some ⟨b3, 0, none⟩)), (7, .pointer (some ⟨b4, 0, none⟩)), (9, .pointer (some ⟨b5, 0, none⟩)), (10, .int .i64 1), (11, .iface 68 (.func (.func 46) #[] #[])), (12, .bool true), (29, .bool true), (30, .pointer (some ⟨b2, 0, none⟩))]) (by kernel_rfl) ?_
          refine OpsT.cons (Does.yi (Yl.load (d := 31) (T := 35) (v := .int .i64 a1.Kind) (by kernel_rfl) (ldB ty35 (l := c_ApiOp a1) (o := 0) (v := .int .i64 a1.Kind) (pick5 _ _ _ _ _ _) (by kernel_rfl))) hI ?_)
          refine OpsT.pures (r := []) [4, 5, 6] [2, 3, 4, 6, 7, 9, 10, 11, 12, 27] (S' := [(2, .int .i64 a2), (3, .pointer (some ⟨b1, 0, none⟩)), (4, .pointer (some ⟨b2, 0, none⟩)), (6, .pointer (some ⟨b3, 0, none⟩)), (7, .pointer (some ⟨b4, 0, none⟩)), (9, .pointer (some ⟨b5, 0, none⟩)), (10, .int .i64 1), (11, .iface 68 (.func (.func 46) #[] #[])), (12, .bool true), (27, .bool (a1.Kind == 6))]) (by kernel_rfl) ?_
          refine OpsT.done ?_
          refine Qn.then ?_
          refine CodT.no' (b := a1.Kind == 6) (by kernel_rfl) (by have h_ := hb74; simp at h_; simp [h_]) ?_
          refine CodT.seq ?_
          refine CodT.regionL [0, 1] (by kernel_rfl) ?_
          refine OpsT.pures (r := []) [0, 1] [3, 4, 6, 7, 9, 10, 11, 40] (S' := [(3, .pointer (some ⟨b1, 0, none⟩)), (4, .pointer (some ⟨b2, 0, none⟩)), (6, .pointer (some ⟨b3, 0, none⟩)), (7, .pointer (some ⟨b4, 0, none⟩)), (9, .pointer (some ⟨b5, 0, none⟩)), (10, .int .i64 1), (11, .iface 68 (.func (.func 46) #[] #[])), (40, .bool true)]) (by kernel_rfl) ?_
          refine OpsT.done ?_
          refine Qn.then ?_
          refine CodT.yes (by kernel_rfl) ?_
          refine CodT.seq ?_
          refine CodT.regionL [0, 1, 2, 3, 4, 5, 6] (by kernel_rfl) ?_
          refine OpsT.pures (r := []) [0, 1, 2, 3, 4, 5, 6] [3, 4, 6, 7, 9, 11, 13, 14] (S' := [(3, .pointer (some ⟨b1, 0, none⟩)), (4, .pointer (some ⟨b2, 0, none⟩)), (6, .pointer (some ⟨b3, 0, none⟩)), (7, .pointer (some ⟨b4, 0, none⟩)), (9, .pointer (some ⟨b5, 0, none⟩)), (11, .iface 68 (.func (.func 46) #[] #[])), (13, .nilFunc), (14, .bool false)]) (by kernel_rfl) ?_
          refine OpsT.done ?_
          refine Qn.then ?_
          refine CodT.seq ?_
          refine CodT.regionL [0] (by kernel_rfl) ?_
          refine OpsT.pures (r := []) [0] [3, 4, 6, 7, 9, 11, 13, 47] (S' := [(3, .pointer (some ⟨b1, 0, none⟩)), (4, .pointer (some ⟨b2, 0, none⟩)), (6, .pointer (some ⟨b3, 0, none⟩)), (7, .pointer (some ⟨b4, 0, none⟩)), (9, .pointer (some ⟨b5, 0, none⟩)), (11, .iface 68 (.func (.func 46) #[] #[])), (13, .nilFunc), (47, .bool false)]) (by kernel_rfl) ?_
          refine OpsT.done ?_
          refine Qn.then ?_
          refine CodT.no (by kernel_rfl) ?_
          refine CodT.drawI (n := 11) [9] (by kernel_rfl) (by kernel_rfl) hI ?_
          intro w hI
          refine GmT.p' 0 57 (.iface 68 (.func (.func 46) #[] #[])) (by kernel_rfl) (by kernel_rfl) ?_
          refine GmT.p' 1 58 (.func (.func 46) #[] #[]) (by kernel_rfl) (by kernel_rfl) ?_
          refine GmT.p' 3 60 (.pointer (some ⟨b2, 3, none⟩)) (by kernel_rfl) (by kernel_rfl) ?_
          refine GmT.r (i := 2) 2 (by kernel_rfl) (by kernel_rfl) (Yl.load (d := 59) (T := 24) (v := .agg ((([.int .i64 a0_ID, .string a0_Name, .string a0_Data, .bool a0_Sealed, .int .i64 a0_Until, .slice A_a0_Holds a0_Holds.length c_a0_Holds] : List Value))).toArray) (by kernel_rfl) (ldBN ty24 (l := (([.int .i64 a0_ID, .string a0_Name, .string a0_Data, .bool a0_Sealed, .int .i64 a0_Until, .slice A_a0_Holds a0_Holds.length c_a0_Holds] : List Value))) (o := 0) (cs := (([.int .i64 a0_ID, .string a0_Name, .string a0_Data, .bool a0_Sealed, .int .i64 a0_Until, .slice A_a0_Holds a0_Holds.length c_a0_Holds] : List Value))) (pick6 _ _ _ _ _ _ _) (by kernel_rfl) (whole _ _ (by kernel_rfl)))) hI ?_
          refine GmT.r (i := 4) 2 (by kernel_rfl) (by kernel_rfl) (Yl.load (d := 61) (T := 3) (v := .int .i64 a1.Time) (by kernel_rfl) (ldB ty3 (l := c_ApiOp a1) (o := 3) (v := .int .i64 a1.Time) (pick5 _ _ _ _ _ _) (by kernel_rfl))) hI ?_
          obtain ⟨⟨y76, y77, y78, y79, y80, y81, y85⟩, hc75, h0⟩ := bindS h0
          try dsimp only at h0
          refine GmT.o (i := 5) (by kernel_rfl) (Does.call (d := some 62) (n := 46) (vs := [.agg ((([.int .i64 a0_ID, .string a0_Name, .string a0_Data, .bool a0_Sealed, .int .i64 a0_Until, .slice A_a0_Holds a0_Holds.length c_a0_Holds] : List Value))).toArray, .int .i64 a1.Time]) (by kernel_rfl) en46 (c46 w0 w _ _ hI hT a0_ID a0_Name a0_Data a0_Sealed a0_Until A_a0_Holds c_a0_Holds a0_Holds hr_a0_Holds a1.Time _ hc75) ?_)
          rintro e w ⟨A82, cp83, Z86, hle87, rfl, hr84, hI⟩
          refine ⟨_, rfl, ?_⟩
          have hC := hI
          have hC := hC.weaken hle87
          refine ⟨fun _ _ => hC, ?_⟩
          refine GmT.p' 6 56 (.tuple #[.agg ((([.int .i64 y76, .string y77, .string y78, .bool y79, .int .i64 y80, .slice A82 y81.length cp83] : List Value))).toArray, .int .i64 y85]) (by kernel_rfl) (by kernel_rfl) ?_
          refine GmT.p' 7 63 (.agg ((([.int .i64 y76, .string y77, .string y78, .bool y79, .int .i64 y80, .slice A82 y81.length cp83] : List Value))).toArray) (by kernel_rfl) (by kernel_rfl) ?_
          refine GmT.p' 8 64 (.int .i64 y85) (by kernel_rfl) (by kernel_rfl) ?_
          have hI := hI.mono (pick2 _ _ _)
          refine GmT.o (i := 9) (by kernel_rfl) (Does.storeLit (T := 24) (b := b5) (o := 0) (v := .agg ((([.int .i64 y76, .string y77, .string y78, .bool y79, .int .i64 y80, .slice A82 y81.length cp83] : List Value))).toArray) (l := (([.int .i64 a0_ID, .string a0_Name, .string a0_Data, .bool a0_Sealed, .int .i64 a0_Until, .slice A_a0_Holds a0_Holds.length c_a0_Holds] : List Value))) (vs := (([.int .i64 y76, .string y77, .string y78, .bool y79, .int .i64 y80, .slice A82 y81.length cp83] : List Value))) (L' := (([.int .i64 y76, .string y77, .string y78, .bool y79, .int .i64 y80, .slice A82 y81.length cp83] : List Value))) (by kernel_rfl) ty24 hI (by kernel_rfl) (by kernel_rfl) (by kernel_rfl) (by kernel_rfl) (by kernel_rfl) ?_)
          intro w hI
          refine ⟨fun h => absurd h (by decide), ?_⟩
          refine GmT.p' 10 10 (.int .i64 y85) (by kernel_rfl) (by kernel_rfl) ?_
          refine GmT.done (by kernel_rfl) ?_
          refine Qn.block_normal ?_
          refine Qn.then ?_
          refine CodT.seq ?_
          refine CodT.seq ?_
          refine CodT.regionL [0, 1] (by kernel_rfl) ?_
          refine OpsT.pures (r := []) [0, 1] [3, 4, 6, 7, 9, 10, 66] (S' := [(3, .pointer (some ⟨b1, 0, none⟩)), (4, .pointer (some ⟨b2, 0, none⟩)), (6, .pointer (some ⟨b3, 0, none⟩)), (7, .pointer (some ⟨b4, 0, none⟩)), (9, .pointer (some ⟨b5, 0, none⟩)), (10, .int .i64 y85), (66, .bool (y85 != 0))]) (by kernel_rfl) ?_
          refine OpsT.done ?_
          refine Qn.then ?_
          by_cases hb88 : (y85 != 0) = true
          · rw [if_pos hb88] at h0
            refine CodT.yes' (b := y85 != 0) (by kernel_rfl) hb88 ?_
            refine CodT.seq ?_
            refine CodT.regionL [0, 1, 2, 3, 4, 5] (by kernel_rfl) ?_
            refine OpsT.cons (Does.yi (Yl.load (d := 67) (T := 24) (v := .agg ((([.int .i64 a0_ID, .string a0_Name, .string a0_Data, .bool a0_Sealed, .int .i64 a0_Until, .slice A_a0_Holds a0_Holds.length c_a0_Holds] : List Value))).toArray) (by kernel_rfl) (ldBN ty24 (l := (([.int .i64 a0_ID, .string a0_Name, .string a0_Data, .bool a0_Sealed, .int .i64 a0_Until, .slice A_a0_Holds a0_Holds.length c_a0_Holds] : List Value))) (o := 0) (cs := (([.int .i64 a0_ID, .string a0_Name, .string a0_Data, .bool a0_Sealed, .int .i64 a0_Until, .slice A_a0_Holds a0_Holds.length c_a0_Holds] : List Value))) (pick6 _ _ _ _ _ _ _) (by kernel_rfl) (whole _ _ (by kernel_rfl)))) hI ?_)
            refine OpsT.pures (r := [3, 4, 5]) [1, 2] [6, 7, 67, 68, 69] (S' := [(6, .pointer (some ⟨b3, 0, none⟩)), (7, .pointer (some ⟨b4, 0, none⟩)), (67, .agg ((([.int .i64 a0_ID, .string a0_Name, .string a0_Data, .bool a0_Sealed, .int .i64 a0_Until, .slice A_a0_Holds a0_Holds.length c_a0_Holds] : List Value))).toArray), (68, .agg (c_ApiEvent (ApiEvent.mk 0 0 (⟨#[]⟩ : ByteArray) 0 0 (List.replicate 32 (0 : Int)))).toArray), (69, .int .i64 y85)]) (by kernel_rfl) ?_
            have hI := hI.mono (pick4 _ _ _ _ _)
            refine OpsT.cons (Does.storeLit (T := 24) (b := b3) (o := 0) (v := .agg ((([.int .i64 a0_ID, .string a0_Name, .string a0_Data, .bool a0_Sealed, .int .i64 a0_Until, .slice A_a0_Holds a0_Holds.length c_a0_Holds] : List Value))).toArray) (l := (([.int .i64 0, .string (⟨#[]⟩ : ByteArray), .string (⟨#[]⟩ : ByteArray), .bool false, .int .i64 0, .slice none 0 0] : List Value))) (vs := (([.int .i64 a0_ID, .string a0_Name, .string a0_Data, .bool a0_Sealed, .int .i64 a0_Until, .slice A_a0_Holds a0_Holds.length c_a0_Holds] : List Value))) (L' := (([.int .i64 a0_ID, .string a0_Name, .string a0_Data, .bool a0_Sealed, .int .i64 a0_Until, .slice A_a0_Holds a0_Holds.length c_a0_Holds] : List Value))) (by kernel_rfl) ty24 hI (by kernel_rfl) (by kernel_rfl) (by kernel_rfl) (by kernel_rfl) (by kernel_rfl) ?_)
            intro w hI
            have hI := hI.mono (pick4 _ _ _ _ _)
            refine OpsT.cons (Does.storeLit (T := 39) (b := b4) (o := 0) (v := .agg (c_ApiEvent (ApiEvent.mk 0 0 (⟨#[]⟩ : ByteArray) 0 0 (List.replicate 32 (0 : Int)))).toArray) (l := c_ApiEvent (ApiEvent.mk 0 0 (⟨#[]⟩ : ByteArray) 0 0 (List.replicate 32 (0 : Int)))) (vs := c_ApiEvent (ApiEvent.mk 0 0 (⟨#[]⟩ : ByteArray) 0 0 (List.replicate 32 (0 : Int)))) (L' := c_ApiEvent (ApiEvent.mk 0 0 (⟨#[]⟩ : ByteArray) 0 0 (List.replicate 32 (0 : Int)))) (by kernel_rfl) ty39 hI (by kernel_rfl) (len_ApiEvent _ (by kernel_rfl)) (by rw [(len_ApiEvent _ (by kernel_rfl))]; kernel_rfl) (ones_app _ _ (by kernel_rfl) (ones_cA _)) (lset_all _ _ (Eq.trans (len_ApiEvent _ (by kernel_rfl)) (Eq.symm (len_ApiEvent _ (by kernel_rfl))))) ?_)
            intro w hI
            refine OpsT.pures (r := []) [5] [6, 7, 8] (S' := [(6, .pointer (some ⟨b3, 0, none⟩)), (7, .pointer (some ⟨b4, 0, none⟩)), (8, .int .i64 y85)]) (by kernel_rfl) ?_
            refine OpsT.done ?_
            refine Qn.then ?_
            refine CodT.ret ?_
            refine Qn.ret_then ?_
            have hL89 := (ldBN ty24 (l := (([.int .i64 a0_ID, .string a0_Name, .string a0_Data, .bool a0_Sealed, .int .i64 a0_Until, .slice A_a0_Holds a0_Holds.length c_a0_Holds] : List Value))) (o := 0) (cs := (([.int .i64 a0_ID, .string a0_Name, .string a0_Data, .bool a0_Sealed, .int .i64 a0_Until, .slice A_a0_Holds a0_Holds.length c_a0_Holds] : List Value))) (pick2 _ _ _) (by kernel_rfl) (whole _ _ (by kernel_rfl))) w hI
            have hL90 := (ldBN ty39 (l := c_ApiEvent (ApiEvent.mk 0 0 (⟨#[]⟩ : ByteArray) 0 0 (List.replicate 32 (0 : Int)))) (o := 0) (cs := c_ApiEvent (ApiEvent.mk 0 0 (⟨#[]⟩ : ByteArray) 0 0 (List.replicate 32 (0 : Int)))) (ent_refl _) (len_ApiEvent _ (by kernel_rfl)) (whole _ _ (len_ApiEvent _ (by kernel_rfl)))) w hI
            have hI := hI.drop
            have hI := hI.drop
            have hI := hI.drop
            have hI := hI.drop
            have hI := hI.drop
            have hI := hI.drop
            have e := someS h0
            subst e
            refine Qn.keep [6, 7, 8] (S' := [(6, .pointer (some ⟨b3, 0, none⟩)), (7, .pointer (some ⟨b4, 0, none⟩)), (8, .int .i64 y85)]) (by kernel_rfl) ?_
            exact post_ret (v := .tuple #[.agg ((([.int .i64 a0_ID, .string a0_Name, .string a0_Data, .bool a0_Sealed, .int .i64 a0_Until, .slice A_a0_Holds a0_Holds.length c_a0_Holds] : List Value))).toArray, .agg (c_ApiEvent (ApiEvent.mk 0 0 (⟨#[]⟩ : ByteArray) 0 0 (List.replicate 32 (0 : Int)))).toArray, .int .i64 y85]) (fun a ha => RunRes.run (vs := [.agg ((([.int .i64 a0_ID, .string a0_Name, .string a0_Data, .bool a0_Sealed, .int .i64 a0_Until, .slice A_a0_Holds a0_Holds.length c_a0_Holds] : List Value))).toArray, .agg (c_ApiEvent (ApiEvent.mk 0 0 (⟨#[]⟩ : ByteArray) 0 0 (List.replicate 32 (0 : Int)))).toArray, .int .i64 y85]) (.cell (t := 6) (T := 24) (ad := ⟨b3, 0, none⟩) (by kernel_rfl) hL89 (.cell (t := 7) (T := 39) (ad := ⟨b4, 0, none⟩) (by kernel_rfl) hL90 (.tmp (t := 8) (by kernel_rfl) .nil))) ha (by kernel_rfl)) ⟨A_a0_Holds, c_a0_Holds, Z86, hle87, rfl, (hr_a0_Holds.mono hle87), (by kernel_rfl), hI⟩
          · rw [if_neg hb88] at h0
            refine CodT.no' (b := y85 != 0) (by kernel_rfl) (by simpa using hb88) ?_
            refine CodT.skip ?_
            refine Qn.then ?_
            refine CodT.seq ?_
            refine CodT.drawI (n := 7) [4, 5] (by kernel_rfl) (by kernel_rfl) hI ?_
            intro w hI
            refine GmT.r (i := 0) 2 (by kernel_rfl) (by kernel_rfl) (Yl.load (d := 70) (T := 24) (v := .agg ((([.int .i64 y76, .string y77, .string y78, .bool y79, .int .i64 y80, .slice A82 y81.length cp83] : List Value))).toArray) (by kernel_rfl) (ldBN ty24 (l := (([.int .i64 y76, .string y77, .string y78, .bool y79, .int .i64 y80, .slice A82 y81.length cp83] : List Value))) (o := 0) (cs := (([.int .i64 y76, .string y77, .string y78, .bool y79, .int .i64 y80, .slice A82 y81.length cp83] : List Value))) (ent_refl _) (by kernel_rfl) (whole _ _ (by kernel_rfl)))) hI ?_
            refine GmT.r (i := 1) 3 (by kernel_rfl) (by kernel_rfl) (Yl.load (d := 71) (T := 24) (v := .agg ((([.int .i64 a0_ID, .string a0_Name, .string a0_Data, .bool a0_Sealed, .int .i64 a0_Until, .slice A_a0_Holds a0_Holds.length c_a0_Holds] : List Value))).toArray) (by kernel_rfl) (ldBN ty24 (l := (([.int .i64 a0_ID, .string a0_Name, .string a0_Data, .bool a0_Sealed, .int .i64 a0_Until, .slice A_a0_Holds a0_Holds.length c_a0_Holds] : List Value))) (o := 0) (cs := (([.int .i64 a0_ID, .string a0_Name, .string a0_Data, .bool a0_Sealed, .int .i64 a0_Until, .slice A_a0_Holds a0_Holds.length c_a0_Holds] : List Value))) (pick6 _ _ _ _ _ _ _) (by kernel_rfl) (whole _ _ (by kernel_rfl)))) hI ?_
            refine GmT.r (i := 2) 3 (by kernel_rfl) (by kernel_rfl) (Yl.load (d := 72) (T := 43) (v := .agg (c_ApiOp a1).toArray) (by kernel_rfl) (ldBN ty43 (l := c_ApiOp a1) (o := 0) (cs := c_ApiOp a1) (pick5 _ _ _ _ _ _) (by kernel_rfl) (whole _ _ (by kernel_rfl)))) hI ?_
            obtain ⟨y92, hc91, h0⟩ := bindS h0
            try dsimp only at h0
            refine GmT.o (i := 3) (by kernel_rfl) (Does.call (d := some 73) (n := 34) (vs := [.agg ((([.int .i64 a0_ID, .string a0_Name, .string a0_Data, .bool a0_Sealed, .int .i64 a0_Until, .slice A_a0_Holds a0_Holds.length c_a0_Holds] : List Value))).toArray, .agg (c_ApiOp a1).toArray]) (by kernel_rfl) en34 (c34 w0 w _ _ hI (hT.mono hle87) a0_ID a0_Name a0_Data a0_Sealed a0_Until A_a0_Holds c_a0_Holds a0_Holds (hr_a0_Holds.mono hle87) a1 _ hc91) ?_)
            rintro e w ⟨rfl, hl93, hI⟩
            refine ⟨_, rfl, ?_⟩
            refine ⟨fun _ _ => hI, ?_⟩
            have hI := hI.mono (pick4 _ _ _ _ _)
            refine GmT.o (i := 4) (by kernel_rfl) (Does.storeLit (T := 24) (b := b3) (o := 0) (v := .agg ((([.int .i64 y76, .string y77, .string y78, .bool y79, .int .i64 y80, .slice A82 y81.length cp83] : List Value))).toArray) (l := (([.int .i64 0, .string (⟨#[]⟩ : ByteArray), .string (⟨#[]⟩ : ByteArray), .bool false, .int .i64 0, .slice none 0 0] : List Value))) (vs := (([.int .i64 y76, .string y77, .string y78, .bool y79, .int .i64 y80, .slice A82 y81.length cp83] : List Value))) (L' := (([.int .i64 y76, .string y77, .string y78, .bool y79, .int .i64 y80, .slice A82 y81.length cp83] : List Value))) (by kernel_rfl) ty24 hI (by kernel_rfl) (by kernel_rfl) (by kernel_rfl) (by kernel_rfl) (by kernel_rfl) ?_)
            intro w hI
            refine ⟨fun h => absurd h (by decide), ?_⟩
            have hI := hI.mono (pick4 _ _ _ _ _)
            refine GmT.o (i := 5) (by kernel_rfl) (Does.storeLit (T := 39) (b := b4) (o := 0) (v := .agg (c_ApiEvent y92).toArray) (l := c_ApiEvent (ApiEvent.mk 0 0 (⟨#[]⟩ : ByteArray) 0 0 (List.replicate 32 (0 : Int)))) (vs := c_ApiEvent y92) (L' := c_ApiEvent y92) (by kernel_rfl) ty39 hI (by kernel_rfl) (len_ApiEvent _ hl93) (by rw [(len_ApiEvent _ (by kernel_rfl))]; kernel_rfl) (ones_app _ _ (by kernel_rfl) (ones_cA _)) (lset_all _ _ (Eq.trans (len_ApiEvent _ hl93) (Eq.symm (len_ApiEvent _ (by kernel_rfl))))) ?_)
            intro w hI
            refine ⟨fun h => absurd h (by decide), ?_⟩
            refine GmT.p' 6 8 (.int .i64 0) (by kernel_rfl) (by kernel_rfl) ?_
            refine GmT.done (by kernel_rfl) ?_
            refine Qn.then ?_
            refine CodT.ret ?_
            have hL94 := (ldBN ty24 (l := (([.int .i64 y76, .string y77, .string y78, .bool y79, .int .i64 y80, .slice A82 y81.length cp83] : List Value))) (o := 0) (cs := (([.int .i64 y76, .string y77, .string y78, .bool y79, .int .i64 y80, .slice A82 y81.length cp83] : List Value))) (pick2 _ _ _) (by kernel_rfl) (whole _ _ (by kernel_rfl))) w hI
            have hL95 := (ldBN ty39 (l := c_ApiEvent y92) (o := 0) (cs := c_ApiEvent y92) (ent_refl _) (len_ApiEvent _ hl93) (whole _ _ (len_ApiEvent _ hl93))) w hI
            have hI := hI.drop
            have hI := hI.drop
            have hI := hI.drop
            have hI := hI.drop
            have hI := hI.drop
            have hI := hI.drop
            have e := someS h0
            subst e
            refine Qn.keep [6, 7, 8] (S' := [(6, .pointer (some ⟨b3, 0, none⟩)), (7, .pointer (some ⟨b4, 0, none⟩)), (8, .int .i64 0)]) (by kernel_rfl) ?_
            exact post_ret (v := .tuple #[.agg ((([.int .i64 y76, .string y77, .string y78, .bool y79, .int .i64 y80, .slice A82 y81.length cp83] : List Value))).toArray, .agg (c_ApiEvent y92).toArray, .int .i64 0]) (fun a ha => RunRes.run (vs := [.agg ((([.int .i64 y76, .string y77, .string y78, .bool y79, .int .i64 y80, .slice A82 y81.length cp83] : List Value))).toArray, .agg (c_ApiEvent y92).toArray, .int .i64 0]) (.cell (t := 6) (T := 24) (ad := ⟨b3, 0, none⟩) (by kernel_rfl) hL94 (.cell (t := 7) (T := 39) (ad := ⟨b4, 0, none⟩) (by kernel_rfl) hL95 (.tmp (t := 8) (by kernel_rfl) .nil))) ha (by kernel_rfl)) ⟨A82, cp83, Z86, hle87, rfl, hr84, hl93, hI⟩
        · rw [if_neg hb74] at h0
          have hb74 : (a1.Kind == 2) = false := by simpa using hb74
          refine GmT.keep [2, 3, 4, 6, 7, 9, 10, 17, 19] (S' := [(2, .int .i64 a2), (3, .pointer (some ⟨b1, 0, none⟩)), (4, .pointer (some ⟨b2, 0, none⟩)), (6, .pointer (some ⟨b3, 0, none⟩)), (7, .pointer (some ⟨b4, 0, none⟩)), (9, .pointer (some ⟨b5, 0, none⟩)), (10, .int .i64 1), (17, .map (some b7)), (19, .int .i64 a1.Kind)]) (by (try simp only [hb74]); kernel_rfl) ?_
          by_cases hb96 : (a1.Kind == 3) = true
          · rw [if_pos hb96] at h0
            refine GmT.keep [2, 3, 4, 6, 7, 9, 10, 17, 19] (S' := [(2, .int .i64 a2), (3, .pointer (some ⟨b1, 0, none⟩)), (4, .pointer (some ⟨b2, 0, none⟩)), (6, .pointer (some ⟨b3, 0, none⟩)), (7, .pointer (some ⟨b4, 0, none⟩)), (9, .pointer (some ⟨b5, 0, none⟩)), (10, .int .i64 1), (17, .map (some b7)), (19, .int .i64 a1.Kind)]) (by (try simp only [hb96]); kernel_rfl) ?_
            refine GmT.o (i := 3) (by kernel_rfl) (Does.yi (Yl.lookup (d := 20) (mt := 61) (b := b7) (kv := (fun x : Int => Value.int .i64 x)) (vv := (fun v : Value => v)) (m := ([(1, .iface 65 (.func (.func 22) #[] #[])), (4, .iface 65 (.func (.func 44) #[] #[])), (5, .iface 65 (.func (.func 45) #[] #[])), (2, .iface 68 (.func (.func 46) #[] #[])), (3, .iface 68 (.func (.func 47) #[] #[])), (6, .iface 64 (.func (.func 38) #[] #[]))] : List (Int × Value))) (k := a1.Kind) (ok := true) (r := .tuple #[.iface 68 (.func (.func 47) #[] #[]), .bool true]) (by kernel_rfl) kt35 Go.Proofs.Tryd.underlying61 (.nilIface : Value) (fun w => by kernel_rfl) (fun w hC => hC.mono (ent_refl _)) (by have q0 : (a1.Kind == 3) = true := hb96; simp at q0; simp [mVal, mHas, q0])) hI ?_)
            refine ⟨fun _ h => h, ?_⟩
            refine GmT.p' 4 16 (.tuple #[.iface 68 (.func (.func 47) #[] #[]), .bool true]) (by kernel_rfl) (by kernel_rfl) ?_
            refine GmT.p' 5 21 (.iface 68 (.func (.func 47) #[] #[])) (by kernel_rfl) (by kernel_rfl) ?_
            refine GmT.p' 6 22 (.bool true) (by kernel_rfl) (by kernel_rfl) ?_
            refine GmT.p' 7 11 (.iface 68 (.func (.func 47) #[] #[])) (by kernel_rfl) (by kernel_rfl) ?_
            refine GmT.p' 8 12 (.bool true) (by kernel_rfl) (by kernel_rfl) ?_
            refine GmT.done (by kernel_rfl) ?_
            refine Qn.then ?_
            refine CodT.seq ?_
            refine CodT.block ?_
            refine CodT.seq ?_
            refine CodT.regionL [0, 1, 2, 3] (by kernel_rfl) ?_
            refine OpsT.pures (r := [1, 2, 3]) [0] [2, 3, 4, 6, 7, 9, 10, 11, 12, 24] (S' := [(2, .int .i64 a2), (3, .pointer (some ⟨b1, 0, none⟩)), (4, .pointer (some ⟨b2, 0, none⟩)), (6, .pointer (some ⟨b3, 0, none⟩)), (7, .pointer (some ⟨b4, 0, none⟩)), (9, .pointer (some ⟨b5, 0, none⟩)), (10, .int .i64 1), (11, .iface 68 (.func (.func 47) #[] #[])), (12, .bool true), (24, .pointer (some ⟨b2, 0, none⟩))]) (by kernel_rfl) ?_
            refine OpsT.cons (Does.yi (Yl.load (d := 25) (T := 35) (v := .int .i64 a1.Kind) (by kernel_rfl) (ldB ty35 (l := c_ApiOp a1) (o := 0) (v := .int .i64 a1.Kind) (pick5 _ _ _ _ _ _) (by kernel_rfl))) hI ?_)
            refine OpsT.pures (r := []) [2, 3] [2, 3, 4, 6, 7, 9, 10, 11, 12, 23] (S' := [(2, .int .i64 a2), (3, .pointer (some ⟨b1, 0, none⟩)), (4, .pointer (some ⟨b2, 0, none⟩)), (6, .pointer (some ⟨b3, 0, none⟩)), (7, .pointer (some ⟨b4, 0, none⟩)), (9, .pointer (some ⟨b5, 0, none⟩)), (10, .int .i64 1), (11, .iface 68 (.func (.func 47) #[] #[])), (12, .bool true), (23, .bool (a1.Kind == 0))]) (by kernel_rfl) ?_
            refine OpsT.done ?_
            refine Qn.then ?_
            refine CodT.no' (b := a1.Kind == 0) (by kernel_rfl) (by have h_ := hb96; simp at h_; simp [h_]) ?_
            refine CodT.seq ?_
            refine CodT.regionL [0, 1, 2, 3, 4, 5, 6] (by kernel_rfl) ?_
            refine OpsT.pures (r := [3, 4, 5, 6]) [0, 1, 2] [2, 3, 4, 6, 7, 9, 10, 11, 12, 29, 30] (S' := [(2, .int .i64 a2), (3, .pointer (some ⟨b1, 0, none⟩)), (4, .pointer (some ⟨b2, 0, none⟩)), (6, .pointer (some ⟨b3, 0, none⟩)), (7, .pointer (some ⟨b4, 0, none⟩)), (9, .pointer (some ⟨b5, 0, none⟩)), (10, .int .i64 1), (11, .iface 68 (.func (.func 47) #[] #[])), (12, .bool true), (29, .bool true), (30, .pointer (some ⟨b2, 0, none⟩))]) (by kernel_rfl) ?_
            refine OpsT.cons (Does.yi (Yl.load (d := 31) (T := 35) (v := .int .i64 a1.Kind) (by kernel_rfl) (ldB ty35 (l := c_ApiOp a1) (o := 0) (v := .int .i64 a1.Kind) (pick5 _ _ _ _ _ _) (by kernel_rfl))) hI ?_)
            refine OpsT.pures (r := []) [4, 5, 6] [2, 3, 4, 6, 7, 9, 10, 11, 12, 27] (S' := [(2, .int .i64 a2), (3, .pointer (some ⟨b1, 0, none⟩)), (4, .pointer (some ⟨b2, 0, none⟩)), (6, .pointer (some ⟨b3, 0, none⟩)), (7, .pointer (some ⟨b4, 0, none⟩)), (9, .pointer (some ⟨b5, 0, none⟩)), (10, .int .i64 1), (11, .iface 68 (.func (.func 47) #[] #[])), (12, .bool true), (27, .bool (a1.Kind == 6))]) (by kernel_rfl) ?_
            refine OpsT.done ?_
            refine Qn.then ?_
            refine CodT.no' (b := a1.Kind == 6) (by kernel_rfl) (by have h_ := hb96; simp at h_; simp [h_]) ?_
            refine CodT.seq ?_
            refine CodT.regionL [0, 1] (by kernel_rfl) ?_
            refine OpsT.pures (r := []) [0, 1] [3, 4, 6, 7, 9, 10, 11, 40] (S' := [(3, .pointer (some ⟨b1, 0, none⟩)), (4, .pointer (some ⟨b2, 0, none⟩)), (6, .pointer (some ⟨b3, 0, none⟩)), (7, .pointer (some ⟨b4, 0, none⟩)), (9, .pointer (some ⟨b5, 0, none⟩)), (10, .int .i64 1), (11, .iface 68 (.func (.func 47) #[] #[])), (40, .bool true)]) (by kernel_rfl) ?_
            refine OpsT.done ?_
            refine Qn.then ?_
            refine CodT.yes (by kernel_rfl) ?_
            refine CodT.seq ?_
            refine CodT.regionL [0, 1, 2, 3, 4, 5, 6] (by kernel_rfl) ?_
            refine OpsT.pures (r := []) [0, 1, 2, 3, 4, 5, 6] [3, 4, 6, 7, 9, 11, 13, 14] (S' := [(3, .pointer (some ⟨b1, 0, none⟩)), (4, .pointer (some ⟨b2, 0, none⟩)), (6, .pointer (some ⟨b3, 0, none⟩)), (7, .pointer (some ⟨b4, 0, none⟩)), (9, .pointer (some ⟨b5, 0, none⟩)), (11, .iface 68 (.func (.func 47) #[] #[])), (13, .nilFunc), (14, .bool false)]) (by kernel_rfl) ?_
            refine OpsT.done ?_
            refine Qn.then ?_
            refine CodT.seq ?_
            refine CodT.regionL [0] (by kernel_rfl) ?_
            refine OpsT.pures (r := []) [0] [3, 4, 6, 7, 9, 11, 13, 47] (S' := [(3, .pointer (some ⟨b1, 0, none⟩)), (4, .pointer (some ⟨b2, 0, none⟩)), (6, .pointer (some ⟨b3, 0, none⟩)), (7, .pointer (some ⟨b4, 0, none⟩)), (9, .pointer (some ⟨b5, 0, none⟩)), (11, .iface 68 (.func (.func 47) #[] #[])), (13, .nilFunc), (47, .bool false)]) (by kernel_rfl) ?_
            refine OpsT.done ?_
            refine Qn.then ?_
            refine CodT.no (by kernel_rfl) ?_
            refine CodT.drawI (n := 11) [9] (by kernel_rfl) (by kernel_rfl) hI ?_
            intro w hI
            refine GmT.p' 0 57 (.iface 68 (.func (.func 47) #[] #[])) (by kernel_rfl) (by kernel_rfl) ?_
            refine GmT.p' 1 58 (.func (.func 47) #[] #[]) (by kernel_rfl) (by kernel_rfl) ?_
            refine GmT.p' 3 60 (.pointer (some ⟨b2, 3, none⟩)) (by kernel_rfl) (by kernel_rfl) ?_
            refine GmT.r (i := 2) 2 (by kernel_rfl) (by kernel_rfl) (Yl.load (d := 59) (T := 24) (v := .agg ((([.int .i64 a0_ID, .string a0_Name, .string a0_Data, .bool a0_Sealed, .int .i64 a0_Until, .slice A_a0_Holds a0_Holds.length c_a0_Holds] : List Value))).toArray) (by kernel_rfl) (ldBN ty24 (l := (([.int .i64 a0_ID, .string a0_Name, .string a0_Data, .bool a0_Sealed, .int .i64 a0_Until, .slice A_a0_Holds a0_Holds.length c_a0_Holds] : List Value))) (o := 0) (cs := (([.int .i64 a0_ID, .string a0_Name, .string a0_Data, .bool a0_Sealed, .int .i64 a0_Until, .slice A_a0_Holds a0_Holds.length c_a0_Holds] : List Value))) (pick6 _ _ _ _ _ _ _) (by kernel_rfl) (whole _ _ (by kernel_rfl)))) hI ?_
            refine GmT.r (i := 4) 2 (by kernel_rfl) (by kernel_rfl) (Yl.load (d := 61) (T := 3) (v := .int .i64 a1.Time) (by kernel_rfl) (ldB ty3 (l := c_ApiOp a1) (o := 3) (v := .int .i64 a1.Time) (pick5 _ _ _ _ _ _) (by kernel_rfl))) hI ?_
            obtain ⟨⟨y98, y99, y100, y101, y102, y103, y107⟩, hc97, h0⟩ := bindS h0
            try dsimp only at h0
            refine GmT.o (i := 5) (by kernel_rfl) (Does.call (d := some 62) (n := 47) (vs := [.agg ((([.int .i64 a0_ID, .string a0_Name, .string a0_Data, .bool a0_Sealed, .int .i64 a0_Until, .slice A_a0_Holds a0_Holds.length c_a0_Holds] : List Value))).toArray, .int .i64 a1.Time]) (by kernel_rfl) en47 (c47 w0 w _ _ hI hT a0_ID a0_Name a0_Data a0_Sealed a0_Until A_a0_Holds c_a0_Holds a0_Holds hr_a0_Holds a1.Time _ hc97) ?_)
            rintro e w ⟨A104, cp105, Z108, hle109, rfl, hr106, hI⟩
            refine ⟨_, rfl, ?_⟩
            have hC := hI
            have hC := hC.weaken hle109
            refine ⟨fun _ _ => hC, ?_⟩
            refine GmT.p' 6 56 (.tuple #[.agg ((([.int .i64 y98, .string y99, .string y100, .bool y101, .int .i64 y102, .slice A104 y103.length cp105] : List Value))).toArray, .int .i64 y107]) (by kernel_rfl) (by kernel_rfl) ?_
            refine GmT.p' 7 63 (.agg ((([.int .i64 y98, .string y99, .string y100, .bool y101, .int .i64 y102, .slice A104 y103.length cp105] : List Value))).toArray) (by kernel_rfl) (by kernel_rfl) ?_
            refine GmT.p' 8 64 (.int .i64 y107) (by kernel_rfl) (by kernel_rfl) ?_
            have hI := hI.mono (pick2 _ _ _)
            refine GmT.o (i := 9) (by kernel_rfl) (Does.storeLit (T := 24) (b := b5) (o := 0) (v := .agg ((([.int .i64 y98, .string y99, .string y100, .bool y101, .int .i64 y102, .slice A104 y103.length cp105] : List Value))).toArray) (l := (([.int .i64 a0_ID, .string a0_Name, .string a0_Data, .bool a0_Sealed, .int .i64 a0_Until, .slice A_a0_Holds a0_Holds.length c_a0_Holds] : List Value))) (vs := (([.int .i64 y98, .string y99, .string y100, .bool y101, .int .i64 y102, .slice A104 y103.length cp105] : List Value))) (L' := (([.int .i64 y98, .string y99, .string y100, .bool y101, .int .i64 y102, .slice A104 y103.length cp105] : List Value))) (by kernel_rfl) ty24 hI (by kernel_rfl) (by kernel_rfl) (by kernel_rfl) (by kernel_rfl) (by kernel_rfl) ?_)
            intro w hI
            refine ⟨fun h => absurd h (by decide), ?_⟩
            refine GmT.p' 10 10 (.int .i64 y107) (by kernel_rfl) (by kernel_rfl) ?_
            refine GmT.done (by kernel_rfl) ?_
            refine Qn.block_normal ?_
            refine Qn.then ?_
            refine CodT.seq ?_
            refine CodT.seq ?_
            refine CodT.regionL [0, 1] (by kernel_rfl) ?_
            refine OpsT.pures (r := []) [0, 1] [3, 4, 6, 7, 9, 10, 66] (S' := [(3, .pointer (some ⟨b1, 0, none⟩)), (4, .pointer (some ⟨b2, 0, none⟩)), (6, .pointer (some ⟨b3, 0, none⟩)), (7, .pointer (some ⟨b4, 0, none⟩)), (9, .pointer (some ⟨b5, 0, none⟩)), (10, .int .i64 y107), (66, .bool (y107 != 0))]) (by kernel_rfl) ?_
            refine OpsT.done ?_
            refine Qn.then ?_
            by_cases hb110 : (y107 != 0) = true
            · rw [if_pos hb110] at h0
              refine CodT.yes' (b := y107 != 0) (by kernel_rfl) hb110 ?_
              refine CodT.seq ?_
              refine CodT.regionL [0, 1, 2, 3, 4, 5] (by kernel_rfl) ?_
              refine OpsT.cons (Does.yi (Yl.load (d := 67) (T := 24) (v := .agg ((([.int .i64 a0_ID, .string a0_Name, .string a0_Data, .bool a0_Sealed, .int .i64 a0_Until, .slice A_a0_Holds a0_Holds.length c_a0_Holds] : List Value))).toArray) (by kernel_rfl) (ldBN ty24 (l := (([.int .i64 a0_ID, .string a0_Name, .string a0_Data, .bool a0_Sealed, .int .i64 a0_Until, .slice A_a0_Holds a0_Holds.length c_a0_Holds] : List Value))) (o := 0) (cs := (([.int .i64 a0_ID, .string a0_Name, .string a0_Data, .bool a0_Sealed, .int .i64 a0_Until, .slice A_a0_Holds a0_Holds.length c_a0_Holds] : List Value))) (pick6 _ _ _ _ _ _ _) (by kernel_rfl) (whole _ _ (by kernel_rfl)))) hI ?_)
              refine OpsT.pures (r := [3, 4, 5]) [1, 2] [6, 7, 67, 68, 69] (S' := [(6, .pointer (some ⟨b3, 0, none⟩)), (7, .pointer (some ⟨b4, 0, none⟩)), (67, .agg ((([.int .i64 a0_ID, .string a0_Name, .string a0_Data, .bool a0_Sealed, .int .i64 a0_Until, .slice A_a0_Holds a0_Holds.length c_a0_Holds] : List Value))).toArray), (68, .agg (c_ApiEvent (ApiEvent.mk 0 0 (⟨#[]⟩ : ByteArray) 0 0 (List.replicate 32 (0 : Int)))).toArray), (69, .int .i64 y107)]) (by kernel_rfl) ?_
              have hI := hI.mono (pick4 _ _ _ _ _)
              refine OpsT.cons (Does.storeLit (T := 24) (b := b3) (o := 0) (v := .agg ((([.int .i64 a0_ID, .string a0_Name, .string a0_Data, .bool a0_Sealed, .int .i64 a0_Until, .slice A_a0_Holds a0_Holds.length c_a0_Holds] : List Value))).toArray) (l := (([.int .i64 0, .string (⟨#[]⟩ : ByteArray), .string (⟨#[]⟩ : ByteArray), .bool false, .int .i64 0, .slice none 0 0] : List Value))) (vs := (([.int .i64 a0_ID, .string a0_Name, .string a0_Data, .bool a0_Sealed, .int .i64 a0_Until, .slice A_a0_Holds a0_Holds.length c_a0_Holds] : List Value))) (L' := (([.int .i64 a0_ID, .string a0_Name, .string a0_Data, .bool a0_Sealed, .int .i64 a0_Until, .slice A_a0_Holds a0_Holds.length c_a0_Holds] : List Value))) (by kernel_rfl) ty24 hI (by kernel_rfl) (by kernel_rfl) (by kernel_rfl) (by kernel_rfl) (by kernel_rfl) ?_)
              intro w hI
              have hI := hI.mono (pick4 _ _ _ _ _)
              refine OpsT.cons (Does.storeLit (T := 39) (b := b4) (o := 0) (v := .agg (c_ApiEvent (ApiEvent.mk 0 0 (⟨#[]⟩ : ByteArray) 0 0 (List.replicate 32 (0 : Int)))).toArray) (l := c_ApiEvent (ApiEvent.mk 0 0 (⟨#[]⟩ : ByteArray) 0 0 (List.replicate 32 (0 : Int)))) (vs := c_ApiEvent (ApiEvent.mk 0 0 (⟨#[]⟩ : ByteArray) 0 0 (List.replicate 32 (0 : Int)))) (L' := c_ApiEvent (ApiEvent.mk 0 0 (⟨#[]⟩ : ByteArray) 0 0 (List.replicate 32 (0 : Int)))) (by kernel_rfl) ty39 hI (by kernel_rfl) (len_ApiEvent _ (by kernel_rfl)) (by rw [(len_ApiEvent _ (by kernel_rfl))]; kernel_rfl) (ones_app _ _ (by kernel_rfl) (ones_cA _)) (lset_all _ _ (Eq.trans (len_ApiEvent _ (by kernel_rfl)) (Eq.symm (len_ApiEvent _ (by kernel_rfl))))) ?_)
              intro w hI
              refine OpsT.pures (r := []) [5] [6, 7, 8] (S' := [(6, .pointer (some ⟨b3, 0, none⟩)), (7, .pointer (some ⟨b4, 0, none⟩)), (8, .int .i64 y107)]) (by kernel_rfl) ?_
              refine OpsT.done ?_
              refine Qn.then ?_
              refine CodT.ret ?_
              refine Qn.ret_then ?_
              have hL111 := (ldBN ty24 (l := (([.int .i64 a0_ID, .string a0_Name, .string a0_Data, .bool a0_Sealed, .int .i64 a0_Until, .slice A_a0_Holds a0_Holds.length c_a0_Holds] : List Value))) (o := 0) (cs := (([.int .i64 a0_ID, .string a0_Name, .string a0_Data, .bool a0_Sealed, .int .i64 a0_Until, .slice A_a0_Holds a0_Holds.length c_a0_Holds] : List Value))) (pick2 _ _ _) (by kernel_rfl) (whole _ _ (by kernel_rfl))) w hI
              have hL112 := (ldBN ty39 (l := c_ApiEvent (ApiEvent.mk 0 0 (⟨#[]⟩ : ByteArray) 0 0 (List.replicate 32 (0 : Int)))) (o := 0) (cs := c_ApiEvent (ApiEvent.mk 0 0 (⟨#[]⟩ : ByteArray) 0 0 (List.replicate 32 (0 : Int)))) (ent_refl _) (len_ApiEvent _ (by kernel_rfl)) (whole _ _ (len_ApiEvent _ (by kernel_rfl)))) w hI
              have hI := hI.drop
              have hI := hI.drop
              have hI := hI.drop
              have hI := hI.drop
              have hI := hI.drop
              have hI := hI.drop
              have e := someS h0
              subst e
              refine Qn.keep [6, 7, 8] (S' := [(6, .pointer (some ⟨b3, 0, none⟩)), (7, .pointer (some ⟨b4, 0, none⟩)), (8, .int .i64 y107)]) (by kernel_rfl) ?_
              exact post_ret (v := .tuple #[.agg ((([.int .i64 a0_ID, .string a0_Name, .string a0_Data, .bool a0_Sealed, .int .i64 a0_Until, .slice A_a0_Holds a0_Holds.length c_a0_Holds] : List Value))).toArray, .agg (c_ApiEvent (ApiEvent.mk 0 0 (⟨#[]⟩ : ByteArray) 0 0 (List.replicate 32 (0 : Int)))).toArray, .int .i64 y107]) (fun a ha => RunRes.run (vs := [.agg ((([.int .i64 a0_ID, .string a0_Name, .string a0_Data, .bool a0_Sealed, .int .i64 a0_Until, .slice A_a0_Holds a0_Holds.length c_a0_Holds] : List Value))).toArray, .agg (c_ApiEvent (ApiEvent.mk 0 0 (⟨#[]⟩ : ByteArray) 0 0 (List.replicate 32 (0 : Int)))).toArray, .int .i64 y107]) (.cell (t := 6) (T := 24) (ad := ⟨b3, 0, none⟩) (by kernel_rfl) hL111 (.cell (t := 7) (T := 39) (ad := ⟨b4, 0, none⟩) (by kernel_rfl) hL112 (.tmp (t := 8) (by kernel_rfl) .nil))) ha (by kernel_rfl)) ⟨A_a0_Holds, c_a0_Holds, Z108, hle109, rfl, (hr_a0_Holds.mono hle109), (by kernel_rfl), hI⟩
            · rw [if_neg hb110] at h0
              refine CodT.no' (b := y107 != 0) (by kernel_rfl) (by simpa using hb110) ?_
              refine CodT.skip ?_
              refine Qn.then ?_
              refine CodT.seq ?_
              refine CodT.drawI (n := 7) [4, 5] (by kernel_rfl) (by kernel_rfl) hI ?_
              intro w hI
              refine GmT.r (i := 0) 2 (by kernel_rfl) (by kernel_rfl) (Yl.load (d := 70) (T := 24) (v := .agg ((([.int .i64 y98, .string y99, .string y100, .bool y101, .int .i64 y102, .slice A104 y103.length cp105] : List Value))).toArray) (by kernel_rfl) (ldBN ty24 (l := (([.int .i64 y98, .string y99, .string y100, .bool y101, .int .i64 y102, .slice A104 y103.length cp105] : List Value))) (o := 0) (cs := (([.int .i64 y98, .string y99, .string y100, .bool y101, .int .i64 y102, .slice A104 y103.length cp105] : List Value))) (ent_refl _) (by kernel_rfl) (whole _ _ (by kernel_rfl)))) hI ?_
              refine GmT.r (i := 1) 3 (by kernel_rfl) (by kernel_rfl) (Yl.load (d := 71) (T := 24) (v := .agg ((([.int .i64 a0_ID, .string a0_Name, .string a0_Data, .bool a0_Sealed, .int .i64 a0_Until, .slice A_a0_Holds a0_Holds.length c_a0_Holds] : List Value))).toArray) (by kernel_rfl) (ldBN ty24 (l := (([.int .i64 a0_ID, .string a0_Name, .string a0_Data, .bool a0_Sealed, .int .i64 a0_Until, .slice A_a0_Holds a0_Holds.length c_a0_Holds] : List Value))) (o := 0) (cs := (([.int .i64 a0_ID, .string a0_Name, .string a0_Data, .bool a0_Sealed, .int .i64 a0_Until, .slice A_a0_Holds a0_Holds.length c_a0_Holds] : List Value))) (pick6 _ _ _ _ _ _ _) (by kernel_rfl) (whole _ _ (by kernel_rfl)))) hI ?_
              refine GmT.r (i := 2) 3 (by kernel_rfl) (by kernel_rfl) (Yl.load (d := 72) (T := 43) (v := .agg (c_ApiOp a1).toArray) (by kernel_rfl) (ldBN ty43 (l := c_ApiOp a1) (o := 0) (cs := c_ApiOp a1) (pick5 _ _ _ _ _ _) (by kernel_rfl) (whole _ _ (by kernel_rfl)))) hI ?_
              obtain ⟨y114, hc113, h0⟩ := bindS h0
              try dsimp only at h0
              refine GmT.o (i := 3) (by kernel_rfl) (Does.call (d := some 73) (n := 34) (vs := [.agg ((([.int .i64 a0_ID, .string a0_Name, .string a0_Data, .bool a0_Sealed, .int .i64 a0_Until, .slice A_a0_Holds a0_Holds.length c_a0_Holds] : List Value))).toArray, .agg (c_ApiOp a1).toArray]) (by kernel_rfl) en34 (c34 w0 w _ _ hI (hT.mono hle109) a0_ID a0_Name a0_Data a0_Sealed a0_Until A_a0_Holds c_a0_Holds a0_Holds (hr_a0_Holds.mono hle109) a1 _ hc113) ?_)
              rintro e w ⟨rfl, hl115, hI⟩
              refine ⟨_, rfl, ?_⟩
              refine ⟨fun _ _ => hI, ?_⟩
              have hI := hI.mono (pick4 _ _ _ _ _)
              refine GmT.o (i := 4) (by kernel_rfl) (Does.storeLit (T := 24) (b := b3) (o := 0) (v := .agg ((([.int .i64 y98, .string y99, .string y100, .bool y101, .int .i64 y102, .slice A104 y103.length cp105] : List Value))).toArray) (l := (([.int .i64 0, .string (⟨#[]⟩ : ByteArray), .string (⟨#[]⟩ : ByteArray), .bool false, .int .i64 0, .slice none 0 0] : List Value))) (vs := (([.int .i64 y98, .string y99, .string y100, .bool y101, .int .i64 y102, .slice A104 y103.length cp105] : List Value))) (L' := (([.int .i64 y98, .string y99, .string y100, .bool y101, .int .i64 y102, .slice A104 y103.length cp105] : List Value))) (by kernel_rfl) ty24 hI (by kernel_rfl) (by kernel_rfl) (by kernel_rfl) (by kernel_rfl) (by kernel_rfl) ?_)
              intro w hI
              refine ⟨fun h => absurd h (by decide), ?_⟩
              have hI := hI.mono (pick4 _ _ _ _ _)
              refine GmT.o (i := 5) (by kernel_rfl) (Does.storeLit (T := 39) (b := b4) (o := 0) (v := .agg (c_ApiEvent y114).toArray) (l := c_ApiEvent (ApiEvent.mk 0 0 (⟨#[]⟩ : ByteArray) 0 0 (List.replicate 32 (0 : Int)))) (vs := c_ApiEvent y114) (L' := c_ApiEvent y114) (by kernel_rfl) ty39 hI (by kernel_rfl) (len_ApiEvent _ hl115) (by rw [(len_ApiEvent _ (by kernel_rfl))]; kernel_rfl) (ones_app _ _ (by kernel_rfl) (ones_cA _)) (lset_all _ _ (Eq.trans (len_ApiEvent _ hl115) (Eq.symm (len_ApiEvent _ (by kernel_rfl))))) ?_)
              intro w hI
              refine ⟨fun h => absurd h (by decide), ?_⟩
              refine GmT.p' 6 8 (.int .i64 0) (by kernel_rfl) (by kernel_rfl) ?_
              refine GmT.done (by kernel_rfl) ?_
              refine Qn.then ?_
              refine CodT.ret ?_
              have hL116 := (ldBN ty24 (l := (([.int .i64 y98, .string y99, .string y100, .bool y101, .int .i64 y102, .slice A104 y103.length cp105] : List Value))) (o := 0) (cs := (([.int .i64 y98, .string y99, .string y100, .bool y101, .int .i64 y102, .slice A104 y103.length cp105] : List Value))) (pick2 _ _ _) (by kernel_rfl) (whole _ _ (by kernel_rfl))) w hI
              have hL117 := (ldBN ty39 (l := c_ApiEvent y114) (o := 0) (cs := c_ApiEvent y114) (ent_refl _) (len_ApiEvent _ hl115) (whole _ _ (len_ApiEvent _ hl115))) w hI
              have hI := hI.drop
              have hI := hI.drop
              have hI := hI.drop
              have hI := hI.drop
              have hI := hI.drop
              have hI := hI.drop
              have e := someS h0
              subst e
              refine Qn.keep [6, 7, 8] (S' := [(6, .pointer (some ⟨b3, 0, none⟩)), (7, .pointer (some ⟨b4, 0, none⟩)), (8, .int .i64 0)]) (by kernel_rfl) ?_
              exact post_ret (v := .tuple #[.agg ((([.int .i64 y98, .string y99, .string y100, .bool y101, .int .i64 y102, .slice A104 y103.length cp105] : List Value))).toArray, .agg (c_ApiEvent y114).toArray, .int .i64 0]) (fun a ha => RunRes.run (vs := [.agg ((([.int .i64 y98, .string y99, .string y100, .bool y101, .int .i64 y102, .slice A104 y103.length cp105] : List Value))).toArray, .agg (c_ApiEvent y114).toArray, .int .i64 0]) (.cell (t := 6) (T := 24) (ad := ⟨b3, 0, none⟩) (by kernel_rfl) hL116 (.cell (t := 7) (T := 39) (ad := ⟨b4, 0, none⟩) (by kernel_rfl) hL117 (.tmp (t := 8) (by kernel_rfl) .nil))) ha (by kernel_rfl)) ⟨A104, cp105, Z108, hle109, rfl, hr106, hl115, hI⟩
          · rw [if_neg hb96] at h0
            have hb96 : (a1.Kind == 3) = false := by simpa using hb96
            refine GmT.keep [2, 3, 4, 6, 7, 9, 10, 17, 19] (S' := [(2, .int .i64 a2), (3, .pointer (some ⟨b1, 0, none⟩)), (4, .pointer (some ⟨b2, 0, none⟩)), (6, .pointer (some ⟨b3, 0, none⟩)), (7, .pointer (some ⟨b4, 0, none⟩)), (9, .pointer (some ⟨b5, 0, none⟩)), (10, .int .i64 1), (17, .map (some b7)), (19, .int .i64 a1.Kind)]) (by (try simp only [hb96]); kernel_rfl) ?_
            by_cases hb118 : (a1.Kind == 6) = true
            · rw [if_pos hb118] at h0
              refine GmT.keep [2, 3, 4, 6, 7, 9, 10, 17, 19] (S' := [(2, .int .i64 a2), (3, .pointer (some ⟨b1, 0, none⟩)), (4, .pointer (some ⟨b2, 0, none⟩)), (6, .pointer (some ⟨b3, 0, none⟩)), (7, .pointer (some ⟨b4, 0, none⟩)), (9, .pointer (some ⟨b5, 0, none⟩)), (10, .int .i64 1), (17, .map (some b7)), (19, .int .i64 a1.Kind)]) (by (try simp only [hb118]); kernel_rfl) ?_
              refine GmT.o (i := 3) (by kernel_rfl) (Does.yi (Yl.lookup (d := 20) (mt := 61) (b := b7) (kv := (fun x : Int => Value.int .i64 x)) (vv := (fun v : Value => v)) (m := ([(1, .iface 65 (.func (.func 22) #[] #[])), (4, .iface 65 (.func (.func 44) #[] #[])), (5, .iface 65 (.func (.func 45) #[] #[])), (2, .iface 68 (.func (.func 46) #[] #[])), (3, .iface 68 (.func (.func 47) #[] #[])), (6, .iface 64 (.func (.func 38) #[] #[]))] : List (Int × Value))) (k := a1.Kind) (ok := true) (r := .tuple #[.iface 64 (.func (.func 38) #[] #[]), .bool true]) (by kernel_rfl) kt35 Go.Proofs.Tryd.underlying61 (.nilIface : Value) (fun w => by kernel_rfl) (fun w hC => hC.mono (ent_refl _)) (by have q0 : (a1.Kind == 6) = true := hb118; simp at q0; simp [mVal, mHas, q0])) hI ?_)
              refine ⟨fun _ h => h, ?_⟩
              refine GmT.p' 4 16 (.tuple #[.iface 64 (.func (.func 38) #[] #[]), .bool true]) (by kernel_rfl) (by kernel_rfl) ?_
              refine GmT.p' 5 21 (.iface 64 (.func (.func 38) #[] #[])) (by kernel_rfl) (by kernel_rfl) ?_
              refine GmT.p' 6 22 (.bool true) (by kernel_rfl) (by kernel_rfl) ?_
              refine GmT.p' 7 11 (.iface 64 (.func (.func 38) #[] #[])) (by kernel_rfl) (by kernel_rfl) ?_
              refine GmT.p' 8 12 (.bool true) (by kernel_rfl) (by kernel_rfl) ?_
              refine GmT.done (by kernel_rfl) ?_
              refine Qn.then ?_
              refine CodT.seq ?_
              refine CodT.block ?_
              refine CodT.seq ?_
              refine CodT.regionL [0, 1, 2, 3] (by kernel_rfl) ?_
              refine OpsT.pures (r := [1, 2, 3]) [0] [2, 3, 4, 6, 7, 9, 10, 11, 12, 24] (S' := [(2, .int .i64 a2), (3, .pointer (some ⟨b1, 0, none⟩)), (4, .pointer (some ⟨b2, 0, none⟩)), (6, .pointer (some ⟨b3, 0, none⟩)), (7, .pointer (some ⟨b4, 0, none⟩)), (9, .pointer (some ⟨b5, 0, none⟩)), (10, .int .i64 1), (11, .iface 64 (.func (.func 38) #[] #[])), (12, .bool true), (24, .pointer (some ⟨b2, 0, none⟩))]) (by kernel_rfl) ?_
              refine OpsT.cons (Does.yi (Yl.load (d := 25) (T := 35) (v := .int .i64 a1.Kind) (by kernel_rfl) (ldB ty35 (l := c_ApiOp a1) (o := 0) (v := .int .i64 a1.Kind) (pick5 _ _ _ _ _ _) (by kernel_rfl))) hI ?_)
              refine OpsT.pures (r := []) [2, 3] [2, 3, 4, 6, 7, 9, 10, 11, 12, 23] (S' := [(2, .int .i64 a2), (3, .pointer (some ⟨b1, 0, none⟩)), (4, .pointer (some ⟨b2, 0, none⟩)), (6, .pointer (some ⟨b3, 0, none⟩)), (7, .pointer (some ⟨b4, 0, none⟩)), (9, .pointer (some ⟨b5, 0, none⟩)), (10, .int .i64 1), (11, .iface 64 (.func (.func 38) #[] #[])), (12, .bool true), (23, .bool (a1.Kind == 0))]) (by kernel_rfl) ?_
              refine OpsT.done ?_
              refine Qn.then ?_
              refine CodT.no' (b := a1.Kind == 0) (by kernel_rfl) (by have h_ := hb118; simp at h_; simp [h_]) ?_
              refine CodT.seq ?_
              refine CodT.regionL [0, 1, 2, 3, 4, 5, 6] (by kernel_rfl) ?_
              refine OpsT.pures (r := [3, 4, 5, 6]) [0, 1, 2] [2, 3, 4, 6, 7, 9, 10, 11, 12, 29, 30] (S' := [(2, .int .i64 a2), (3, .pointer (some ⟨b1, 0, none⟩)), (4, .pointer (some ⟨b2, 0, none⟩)), (6, .pointer (some ⟨b3, 0, none⟩)), (7, .pointer (some ⟨b4, 0, none⟩)), (9, .pointer (some ⟨b5, 0, none⟩)), (10, .int .i64 1), (11, .iface 64 (.func (.func 38) #[] #[])), (12, .bool true), (29, .bool true), (30, .pointer (some ⟨b2, 0, none⟩))]) (by kernel_rfl) ?_
              refine OpsT.cons (Does.yi (Yl.load (d := 31) (T := 35) (v := .int .i64 a1.Kind) (by kernel_rfl) (ldB ty35 (l := c_ApiOp a1) (o := 0) (v := .int .i64 a1.Kind) (pick5 _ _ _ _ _ _) (by kernel_rfl))) hI ?_)
              refine OpsT.pures (r := []) [4, 5, 6] [2, 3, 4, 6, 7, 9, 10, 11, 12, 27] (S' := [(2, .int .i64 a2), (3, .pointer (some ⟨b1, 0, none⟩)), (4, .pointer (some ⟨b2, 0, none⟩)), (6, .pointer (some ⟨b3, 0, none⟩)), (7, .pointer (some ⟨b4, 0, none⟩)), (9, .pointer (some ⟨b5, 0, none⟩)), (10, .int .i64 1), (11, .iface 64 (.func (.func 38) #[] #[])), (12, .bool true), (27, .bool (a1.Kind == 6))]) (by kernel_rfl) ?_
              refine OpsT.done ?_
              refine Qn.then ?_
              refine CodT.yes' (b := a1.Kind == 6) (by kernel_rfl) hb118 ?_
              refine CodT.drawI (n := 8) [6] (by kernel_rfl) (by kernel_rfl) hI ?_
              intro w hI
              refine GmT.p' 0 34 (.agg ((([.int .i64 0, .string (⟨#[]⟩ : ByteArray), .string (⟨#[]⟩ : ByteArray), .bool false, .int .i64 0, .slice none 0 0] : List Value))).toArray) (by kernel_rfl) (by kernel_rfl) ?_
              refine GmT.p' 1 35 (.iface 64 (.func (.func 38) #[] #[])) (by kernel_rfl) (by kernel_rfl) ?_
              refine GmT.p' 2 36 (.func (.func 38) #[] #[]) (by kernel_rfl) (by kernel_rfl) ?_
              refine GmT.p' 4 38 (.int .i64 a2) (by kernel_rfl) (by kernel_rfl) ?_
              refine GmT.r (i := 3) 3 (by kernel_rfl) (by kernel_rfl) (Yl.load (d := 37) (T := 24) (v := .agg ((([.int .i64 a0_ID, .string a0_Name, .string a0_Data, .bool a0_Sealed, .int .i64 a0_Until, .slice A_a0_Holds a0_Holds.length c_a0_Holds] : List Value))).toArray) (by kernel_rfl) (ldBN ty24 (l := (([.int .i64 a0_ID, .string a0_Name, .string a0_Data, .bool a0_Sealed, .int .i64 a0_Until, .slice A_a0_Holds a0_Holds.length c_a0_Holds] : List Value))) (o := 0) (cs := (([.int .i64 a0_ID, .string a0_Name, .string a0_Data, .bool a0_Sealed, .int .i64 a0_Until, .slice A_a0_Holds a0_Holds.length c_a0_Holds] : List Value))) (pick6 _ _ _ _ _ _ _) (by kernel_rfl) (whole _ _ (by kernel_rfl)))) hI ?_
              obtain ⟨y120, hc119, h0⟩ := bindS h0
              try dsimp only at h0
              refine GmT.o (i := 5) (by kernel_rfl) (Does.call (d := some 39) (n := 38) (vs := [.agg ((([.int .i64 a0_ID, .string a0_Name, .string a0_Data, .bool a0_Sealed, .int .i64 a0_Until, .slice A_a0_Holds a0_Holds.length c_a0_Holds] : List Value))).toArray, .int .i64 a2]) (by kernel_rfl) en38 (c38 w0 w _ _ hI hT a0_ID a0_Name a0_Data a0_Sealed a0_Until A_a0_Holds c_a0_Holds a0_Holds hr_a0_Holds a2 _ hc119) ?_)
              rintro e w ⟨rfl, hI⟩
              refine ⟨_, rfl, ?_⟩
              refine ⟨fun _ _ => hI, ?_⟩
              have hI := hI.mono (pick2 _ _ _)
              refine GmT.o (i := 6) (by kernel_rfl) (Does.storeLit (T := 24) (b := b5) (o := 0) (v := .agg ((([.int .i64 0, .string (⟨#[]⟩ : ByteArray), .string (⟨#[]⟩ : ByteArray), .bool false, .int .i64 0, .slice none 0 0] : List Value))).toArray) (l := (([.int .i64 a0_ID, .string a0_Name, .string a0_Data, .bool a0_Sealed, .int .i64 a0_Until, .slice A_a0_Holds a0_Holds.length c_a0_Holds] : List Value))) (vs := (([.int .i64 0, .string (⟨#[]⟩ : ByteArray), .string (⟨#[]⟩ : ByteArray), .bool false, .int .i64 0, .slice none 0 0] : List Value))) (L' := (([.int .i64 0, .string (⟨#[]⟩ : ByteArray), .string (⟨#[]⟩ : ByteArray), .bool false, .int .i64 0, .slice none 0 0] : List Value))) (by kernel_rfl) ty24 hI (by kernel_rfl) (by kernel_rfl) (by kernel_rfl) (by kernel_rfl) (by kernel_rfl) ?_)
              intro w hI
              refine ⟨fun h => absurd h (by decide), ?_⟩
              refine GmT.p' 7 10 (.int .i64 y120) (by kernel_rfl) (by kernel_rfl) ?_
              refine GmT.done (by kernel_rfl) ?_
              refine Qn.block_normal ?_
              refine Qn.then ?_
              refine CodT.seq ?_
              refine CodT.seq ?_
              refine CodT.regionL [0, 1] (by kernel_rfl) ?_
              refine OpsT.pures (r := []) [0, 1] [3, 4, 6, 7, 9, 10, 66] (S' := [(3, .pointer (some ⟨b1, 0, none⟩)), (4, .pointer (some ⟨b2, 0, none⟩)), (6, .pointer (some ⟨b3, 0, none⟩)), (7, .pointer (some ⟨b4, 0, none⟩)), (9, .pointer (some ⟨b5, 0, none⟩)), (10, .int .i64 y120), (66, .bool (y120 != 0))]) (by kernel_rfl) ?_
              refine OpsT.done ?_
              refine Qn.then ?_
              by_cases hb121 : (y120 != 0) = true
              · rw [if_pos hb121] at h0
                refine CodT.yes' (b := y120 != 0) (by kernel_rfl) hb121 ?_
                refine CodT.seq ?_
                refine CodT.regionL [0, 1, 2, 3, 4, 5] (by kernel_rfl) ?_
                refine OpsT.cons (Does.yi (Yl.load (d := 67) (T := 24) (v := .agg ((([.int .i64 a0_ID, .string a0_Name, .string a0_Data, .bool a0_Sealed, .int .i64 a0_Until, .slice A_a0_Holds a0_Holds.length c_a0_Holds] : List Value))).toArray) (by kernel_rfl) (ldBN ty24 (l := (([.int .i64 a0_ID, .string a0_Name, .string a0_Data, .bool a0_Sealed, .int .i64 a0_Until, .slice A_a0_Holds a0_Holds.length c_a0_Holds] : List Value))) (o := 0) (cs := (([.int .i64 a0_ID, .string a0_Name, .string a0_Data, .bool a0_Sealed, .int .i64 a0_Until, .slice A_a0_Holds a0_Holds.length c_a0_Holds] : List Value))) (pick6 _ _ _ _ _ _ _) (by kernel_rfl) (whole _ _ (by kernel_rfl)))) hI ?_)
                refine OpsT.pures (r := [3, 4, 5]) [1, 2] [6, 7, 67, 68, 69] (S' := [(6, .pointer (some ⟨b3, 0, none⟩)), (7, .pointer (some ⟨b4, 0, none⟩)), (67, .agg ((([.int .i64 a0_ID, .string a0_Name, .string a0_Data, .bool a0_Sealed, .int .i64 a0_Until, .slice A_a0_Holds a0_Holds.length c_a0_Holds] : List Value))).toArray), (68, .agg (c_ApiEvent (ApiEvent.mk 0 0 (⟨#[]⟩ : ByteArray) 0 0 (List.replicate 32 (0 : Int)))).toArray), (69, .int .i64 y120)]) (by kernel_rfl) ?_
                have hI := hI.mono (pick4 _ _ _ _ _)
                refine OpsT.cons (Does.storeLit (T := 24) (b := b3) (o := 0) (v := .agg ((([.int .i64 a0_ID, .string a0_Name, .string a0_Data, .bool a0_Sealed, .int .i64 a0_Until, .slice A_a0_Holds a0_Holds.length c_a0_Holds] : List Value))).toArray) (l := (([.int .i64 0, .string (⟨#[]⟩ : ByteArray), .string (⟨#[]⟩ : ByteArray), .bool false, .int .i64 0, .slice none 0 0] : List Value))) (vs := (([.int .i64 a0_ID, .string a0_Name, .string a0_Data, .bool a0_Sealed, .int .i64 a0_Until, .slice A_a0_Holds a0_Holds.length c_a0_Holds] : List Value))) (L' := (([.int .i64 a0_ID, .string a0_Name, .string a0_Data, .bool a0_Sealed, .int .i64 a0_Until, .slice A_a0_Holds a0_Holds.length c_a0_Holds] : List Value))) (by kernel_rfl) ty24 hI (by kernel_rfl) (by kernel_rfl) (by kernel_rfl) (by kernel_rfl) (by kernel_rfl) ?_)
                intro w hI
                have hI := hI.mono (pick4 _ _ _ _ _)
                refine OpsT.cons (Does.storeLit (T := 39) (b := b4) (o := 0) (v := .agg (c_ApiEvent (ApiEvent.mk 0 0 (⟨#[]⟩ : ByteArray) 0 0 (List.replicate 32 (0 : Int)))).toArray) (l := c_ApiEvent (ApiEvent.mk 0 0 (⟨#[]⟩ : ByteArray) 0 0 (List.replicate 32 (0 : Int)))) (vs := c_ApiEvent (ApiEvent.mk 0 0 (⟨#[]⟩ : ByteArray) 0 0 (List.replicate 32 (0 : Int)))) (L' := c_ApiEvent (ApiEvent.mk 0 0 (⟨#[]⟩ : ByteArray) 0 0 (List.replicate 32 (0 : Int)))) (by kernel_rfl) ty39 hI (by kernel_rfl) (len_ApiEvent _ (by kernel_rfl)) (by rw [(len_ApiEvent _ (by kernel_rfl))]; kernel_rfl) (ones_app _ _ (by kernel_rfl) (ones_cA _)) (lset_all _ _ (Eq.trans (len_ApiEvent _ (by kernel_rfl)) (Eq.symm (len_ApiEvent _ (by kernel_rfl))))) ?_)
                intro w hI
                refine OpsT.pures (r := []) [5] [6, 7, 8] (S' := [(6, .pointer (some ⟨b3, 0, none⟩)), (7, .pointer (some ⟨b4, 0, none⟩)), (8, .int .i64 y120)]) (by kernel_rfl) ?_
                refine OpsT.done ?_
                refine Qn.then ?_
                refine CodT.ret ?_
                refine Qn.ret_then ?_
                have hL122 := (ldBN ty24 (l := (([.int .i64 a0_ID, .string a0_Name, .string a0_Data, .bool a0_Sealed, .int .i64 a0_Until, .slice A_a0_Holds a0_Holds.length c_a0_Holds] : List Value))) (o := 0) (cs := (([.int .i64 a0_ID, .string a0_Name, .string a0_Data, .bool a0_Sealed, .int .i64 a0_Until, .slice A_a0_Holds a0_Holds.length c_a0_Holds] : List Value))) (pick2 _ _ _) (by kernel_rfl) (whole _ _ (by kernel_rfl))) w hI
                have hL123 := (ldBN ty39 (l := c_ApiEvent (ApiEvent.mk 0 0 (⟨#[]⟩ : ByteArray) 0 0 (List.replicate 32 (0 : Int)))) (o := 0) (cs := c_ApiEvent (ApiEvent.mk 0 0 (⟨#[]⟩ : ByteArray) 0 0 (List.replicate 32 (0 : Int)))) (ent_refl _) (len_ApiEvent _ (by kernel_rfl)) (whole _ _ (len_ApiEvent _ (by kernel_rfl)))) w hI
                have hI := hI.drop
                have hI := hI.drop
                have hI := hI.drop
                have hI := hI.drop
                have hI := hI.drop
                have hI := hI.drop
                have e := someS h0
                subst e
                refine Qn.keep [6, 7, 8] (S' := [(6, .pointer (some ⟨b3, 0, none⟩)), (7, .pointer (some ⟨b4, 0, none⟩)), (8, .int .i64 y120)]) (by kernel_rfl) ?_
                exact post_ret (v := .tuple #[.agg ((([.int .i64 a0_ID, .string a0_Name, .string a0_Data, .bool a0_Sealed, .int .i64 a0_Until, .slice A_a0_Holds a0_Holds.length c_a0_Holds] : List Value))).toArray, .agg (c_ApiEvent (ApiEvent.mk 0 0 (⟨#[]⟩ : ByteArray) 0 0 (List.replicate 32 (0 : Int)))).toArray, .int .i64 y120]) (fun a ha => RunRes.run (vs := [.agg ((([.int .i64 a0_ID, .string a0_Name, .string a0_Data, .bool a0_Sealed, .int .i64 a0_Until, .slice A_a0_Holds a0_Holds.length c_a0_Holds] : List Value))).toArray, .agg (c_ApiEvent (ApiEvent.mk 0 0 (⟨#[]⟩ : ByteArray) 0 0 (List.replicate 32 (0 : Int)))).toArray, .int .i64 y120]) (.cell (t := 6) (T := 24) (ad := ⟨b3, 0, none⟩) (by kernel_rfl) hL122 (.cell (t := 7) (T := 39) (ad := ⟨b4, 0, none⟩) (by kernel_rfl) hL123 (.tmp (t := 8) (by kernel_rfl) .nil))) ha (by kernel_rfl)) ⟨A_a0_Holds, c_a0_Holds, Z, Hp.le_refl _, rfl, hr_a0_Holds, (by kernel_rfl), hI⟩
              · rw [if_neg hb121] at h0
                refine CodT.no' (b := y120 != 0) (by kernel_rfl) (by simpa using hb121) ?_
                refine CodT.skip ?_
                refine Qn.then ?_
                refine CodT.seq ?_
                refine CodT.drawI (n := 7) [5] (by kernel_rfl) (by kernel_rfl) hI ?_
                intro w hI
                refine GmT.r (i := 0) 2 (by kernel_rfl) (by kernel_rfl) (Yl.load (d := 70) (T := 24) (v := .agg ((([.int .i64 0, .string (⟨#[]⟩ : ByteArray), .string (⟨#[]⟩ : ByteArray), .bool false, .int .i64 0, .slice none 0 0] : List Value))).toArray) (by kernel_rfl) (ldBN ty24 (l := (([.int .i64 0, .string (⟨#[]⟩ : ByteArray), .string (⟨#[]⟩ : ByteArray), .bool false, .int .i64 0, .slice none 0 0] : List Value))) (o := 0) (cs := (([.int .i64 0, .string (⟨#[]⟩ : ByteArray), .string (⟨#[]⟩ : ByteArray), .bool false, .int .i64 0, .slice none 0 0] : List Value))) (ent_refl _) (by kernel_rfl) (whole _ _ (by kernel_rfl)))) hI ?_
                refine GmT.r (i := 1) 2 (by kernel_rfl) (by kernel_rfl) (Yl.load (d := 71) (T := 24) (v := .agg ((([.int .i64 a0_ID, .string a0_Name, .string a0_Data, .bool a0_Sealed, .int .i64 a0_Until, .slice A_a0_Holds a0_Holds.length c_a0_Holds] : List Value))).toArray) (by kernel_rfl) (ldBN ty24 (l := (([.int .i64 a0_ID, .string a0_Name, .string a0_Data, .bool a0_Sealed, .int .i64 a0_Until, .slice A_a0_Holds a0_Holds.length c_a0_Holds] : List Value))) (o := 0) (cs := (([.int .i64 a0_ID, .string a0_Name, .string a0_Data, .bool a0_Sealed, .int .i64 a0_Until, .slice A_a0_Holds a0_Holds.length c_a0_Holds] : List Value))) (pick6 _ _ _ _ _ _ _) (by kernel_rfl) (whole _ _ (by kernel_rfl)))) hI ?_
                refine GmT.r (i := 2) 2 (by kernel_rfl) (by kernel_rfl) (Yl.load (d := 72) (T := 43) (v := .agg (c_ApiOp a1).toArray) (by kernel_rfl) (ldBN ty43 (l := c_ApiOp a1) (o := 0) (cs := c_ApiOp a1) (pick5 _ _ _ _ _ _) (by kernel_rfl) (whole _ _ (by kernel_rfl)))) hI ?_
                obtain ⟨y125, hc124, h0⟩ := bindS h0
                try dsimp only at h0
                refine GmT.o (i := 3) (by kernel_rfl) (Does.call (d := some 73) (n := 34) (vs := [.agg ((([.int .i64 a0_ID, .string a0_Name, .string a0_Data, .bool a0_Sealed, .int .i64 a0_Until, .slice A_a0_Holds a0_Holds.length c_a0_Holds] : List Value))).toArray, .agg (c_ApiOp a1).toArray]) (by kernel_rfl) en34 (c34 w0 w _ _ hI hT a0_ID a0_Name a0_Data a0_Sealed a0_Until A_a0_Holds c_a0_Holds a0_Holds hr_a0_Holds a1 _ hc124) ?_)
                rintro e w ⟨rfl, hl126, hI⟩
                refine ⟨_, rfl, ?_⟩
                refine ⟨fun _ _ => hI, ?_⟩
                have hI := hI.mono (pick4 _ _ _ _ _)
                refine GmT.o (i := 4) (by kernel_rfl) (Does.storeLit (T := 24) (b := b3) (o := 0) (v := .agg ((([.int .i64 0, .string (⟨#[]⟩ : ByteArray), .string (⟨#[]⟩ : ByteArray), .bool false, .int .i64 0, .slice none 0 0] : List Value))).toArray) (l := (([.int .i64 0, .string (⟨#[]⟩ : ByteArray), .string (⟨#[]⟩ : ByteArray), .bool false, .int .i64 0, .slice none 0 0] : List Value))) (vs := (([.int .i64 0, .string (⟨#[]⟩ : ByteArray), .string (⟨#[]⟩ : ByteArray), .bool false, .int .i64 0, .slice none 0 0] : List Value))) (L' := (([.int .i64 0, .string (⟨#[]⟩ : ByteArray), .string (⟨#[]⟩ : ByteArray), .bool false, .int .i64 0, .slice none 0 0] : List Value))) (by kernel_rfl) ty24 hI (by kernel_rfl) (by kernel_rfl) (by kernel_rfl) (by kernel_rfl) (by kernel_rfl) ?_)
                intro w hI
                have hC := hI
                have hC := hC.mono (pick6 _ _ _ _ _ _ _)
                have hC := hC.mono (pick6 _ _ _ _ _ _ _)
                have hC := hC.mono (pick3 _ _ _ _)
                have hC := hC.mono (pick6 _ _ _ _ _ _ _)
                have hC := hC.mono (pick6 _ _ _ _ _ _ _)
                have hC := hC.mono (pick6 _ _ _ _ _ _ _)
                refine ⟨fun _ _ => hC, ?_⟩
                have hI := hI.mono (pick4 _ _ _ _ _)
                refine GmT.o (i := 5) (by kernel_rfl) (Does.storeLit (T := 39) (b := b4) (o := 0) (v := .agg (c_ApiEvent y125).toArray) (l := c_ApiEvent (ApiEvent.mk 0 0 (⟨#[]⟩ : ByteArray) 0 0 (List.replicate 32 (0 : Int)))) (vs := c_ApiEvent y125) (L' := c_ApiEvent y125) (by kernel_rfl) ty39 hI (by kernel_rfl) (len_ApiEvent _ hl126) (by rw [(len_ApiEvent _ (by kernel_rfl))]; kernel_rfl) (ones_app _ _ (by kernel_rfl) (ones_cA _)) (lset_all _ _ (Eq.trans (len_ApiEvent _ hl126) (Eq.symm (len_ApiEvent _ (by kernel_rfl))))) ?_)
                intro w hI
                refine ⟨fun h => absurd h (by decide), ?_⟩
                refine GmT.p' 6 8 (.int .i64 0) (by kernel_rfl) (by kernel_rfl) ?_
                refine GmT.done (by kernel_rfl) ?_
                refine Qn.then ?_
                refine CodT.ret ?_
                have hL127 := (ldBN ty24 (l := (([.int .i64 0, .string (⟨#[]⟩ : ByteArray), .string (⟨#[]⟩ : ByteArray), .bool false, .int .i64 0, .slice none 0 0] : List Value))) (o := 0) (cs := (([.int .i64 0, .string (⟨#[]⟩ : ByteArray), .string (⟨#[]⟩ : ByteArray), .bool false, .int .i64 0, .slice none 0 0] : List Value))) (pick2 _ _ _) (by kernel_rfl) (whole _ _ (by kernel_rfl))) w hI
                have hL128 := (ldBN ty39 (l := c_ApiEvent y125) (o := 0) (cs := c_ApiEvent y125) (ent_refl _) (len_ApiEvent _ hl126) (whole _ _ (len_ApiEvent _ hl126))) w hI
                have hI := hI.drop
                have hI := hI.drop
                have hI := hI.drop
                have hI := hI.drop
                have hI := hI.drop
                have hI := hI.drop
                have e := someS h0
                subst e
                refine Qn.keep [6, 7, 8] (S' := [(6, .pointer (some ⟨b3, 0, none⟩)), (7, .pointer (some ⟨b4, 0, none⟩)), (8, .int .i64 0)]) (by kernel_rfl) ?_
                exact post_ret (v := .tuple #[.agg ((([.int .i64 0, .string (⟨#[]⟩ : ByteArray), .string (⟨#[]⟩ : ByteArray), .bool false, .int .i64 0, .slice none 0 0] : List Value))).toArray, .agg (c_ApiEvent y125).toArray, .int .i64 0]) (fun a ha => RunRes.run (vs := [.agg ((([.int .i64 0, .string (⟨#[]⟩ : ByteArray), .string (⟨#[]⟩ : ByteArray), .bool false, .int .i64 0, .slice none 0 0] : List Value))).toArray, .agg (c_ApiEvent y125).toArray, .int .i64 0]) (.cell (t := 6) (T := 24) (ad := ⟨b3, 0, none⟩) (by kernel_rfl) hL127 (.cell (t := 7) (T := 39) (ad := ⟨b4, 0, none⟩) (by kernel_rfl) hL128 (.tmp (t := 8) (by kernel_rfl) .nil))) ha (by kernel_rfl)) ⟨none, 0, Z, Hp.le_refl _, rfl, (RdS.nil _ _ _ _ _ (Nat.zero_le _)), hl126, hI⟩
            · rw [if_neg hb118] at h0
              have hb118 : (a1.Kind == 6) = false := by simpa using hb118
              refine GmT.keep [2, 3, 4, 6, 7, 9, 10, 17, 19] (S' := [(2, .int .i64 a2), (3, .pointer (some ⟨b1, 0, none⟩)), (4, .pointer (some ⟨b2, 0, none⟩)), (6, .pointer (some ⟨b3, 0, none⟩)), (7, .pointer (some ⟨b4, 0, none⟩)), (9, .pointer (some ⟨b5, 0, none⟩)), (10, .int .i64 1), (17, .map (some b7)), (19, .int .i64 a1.Kind)]) (by (try simp only [hb118]); kernel_rfl) ?_
              refine GmT.o (i := 3) (by kernel_rfl) (Does.yi (Yl.lookup (d := 20) (mt := 61) (b := b7) (kv := (fun x : Int => Value.int .i64 x)) (vv := (fun v : Value => v)) (m := ([(1, .iface 65 (.func (.func 22) #[] #[])), (4, .iface 65 (.func (.func 44) #[] #[])), (5, .iface 65 (.func (.func 45) #[] #[])), (2, .iface 68 (.func (.func 46) #[] #[])), (3, .iface 68 (.func (.func 47) #[] #[])), (6, .iface 64 (.func (.func 38) #[] #[]))] : List (Int × Value))) (k := a1.Kind) (ok := true) (r := .tuple #[.nilIface, .bool false]) (by kernel_rfl) kt35 Go.Proofs.Tryd.underlying61 (.nilIface : Value) (fun w => by kernel_rfl) (fun w hC => hC.mono (ent_refl _)) (by have q0 : (a1.Kind == 1) = false := hb8; simp at q0; have q1 : (a1.Kind == 4) = false := hb30; simp at q1; have q2 : (a1.Kind == 5) = false := hb52; simp at q2; have q3 : (a1.Kind == 2) = false := hb74; simp at q3; have q4 : (a1.Kind == 3) = false := hb96; simp at q4; have q5 : (a1.Kind == 6) = false := hb118; simp at q5; simp [mVal, mHas, q0, q1, q2, q3, q4, q5])) hI ?_)
              refine ⟨fun _ h => h, ?_⟩
              refine GmT.p' 4 16 (.tuple #[.nilIface, .bool false]) (by kernel_rfl) (by kernel_rfl) ?_
              refine GmT.p' 5 21 (.nilIface) (by kernel_rfl) (by kernel_rfl) ?_
              refine GmT.p' 6 22 (.bool false) (by kernel_rfl) (by kernel_rfl) ?_
              refine GmT.p' 7 11 (.nilIface) (by kernel_rfl) (by kernel_rfl) ?_
              refine GmT.p' 8 12 (.bool false) (by kernel_rfl) (by kernel_rfl) ?_
              refine GmT.done (by kernel_rfl) ?_
              refine Qn.then ?_
              obtain ⟨r1, h1, h0⟩ := bindS h0
              refine CodT.meet (fun a w => ∃ (x129 : Int), x129 = r1 ∧ Fr 74 [(3, .pointer (some ⟨b1, 0, none⟩)), (4, .pointer (some ⟨b2, 0, none⟩)), (6, .pointer (some ⟨b3, 0, none⟩)), (7, .pointer (some ⟨b4, 0, none⟩)), (9, .pointer (some ⟨b5, 0, none⟩)), (10, .int .i64 x129)] a ∧ Inv w0 Z w (star (pt b5 (.cells ((([.int .i64 a0_ID, .string a0_Name, .string a0_Data, .bool a0_Sealed, .int .i64 a0_Until, .slice A_a0_Holds a0_Holds.length c_a0_Holds] : List Value))).toArray 24 (0, 0))) (star (pt b4 (.cells (c_ApiEvent (ApiEvent.mk 0 0 (⟨#[]⟩ : ByteArray) 0 0 (List.replicate 32 (0 : Int)))).toArray 39 (0, 0))) (star (pt b3 (.cells ((([.int .i64 0, .string (⟨#[]⟩ : ByteArray), .string (⟨#[]⟩ : ByteArray), .bool false, .int .i64 0, .slice none 0 0] : List Value))).toArray 24 (0, 0))) (star (pt b2 (.cells (c_ApiOp a1).toArray 43 (0, 0))) (star (pt b1 (.cells ((([.int .i64 a0_ID, .string a0_Name, .string a0_Data, .bool a0_Sealed, .int .i64 a0_Until, .slice A_a0_Holds a0_Holds.length c_a0_Holds] : List Value))).toArray 24 (0, 0))) A)))))) ?_ ?_
              ·
                refine CodT.block ?_
                refine CodT.seq ?_
                refine CodT.regionL [0, 1, 2, 3] (by kernel_rfl) ?_
                refine OpsT.pures (r := [1, 2, 3]) [0] [2, 3, 4, 6, 7, 9, 10, 11, 12, 24] (S' := [(2, .int .i64 a2), (3, .pointer (some ⟨b1, 0, none⟩)), (4, .pointer (some ⟨b2, 0, none⟩)), (6, .pointer (some ⟨b3, 0, none⟩)), (7, .pointer (some ⟨b4, 0, none⟩)), (9, .pointer (some ⟨b5, 0, none⟩)), (10, .int .i64 1), (11, .nilIface), (12, .bool false), (24, .pointer (some ⟨b2, 0, none⟩))]) (by kernel_rfl) ?_
                refine OpsT.cons (Does.yi (Yl.load (d := 25) (T := 35) (v := .int .i64 a1.Kind) (by kernel_rfl) (ldB ty35 (l := c_ApiOp a1) (o := 0) (v := .int .i64 a1.Kind) (pick5 _ _ _ _ _ _) (by kernel_rfl))) hI ?_)
                refine OpsT.pures (r := []) [2, 3] [2, 3, 4, 6, 7, 9, 10, 11, 12, 23] (S' := [(2, .int .i64 a2), (3, .pointer (some ⟨b1, 0, none⟩)), (4, .pointer (some ⟨b2, 0, none⟩)), (6, .pointer (some ⟨b3, 0, none⟩)), (7, .pointer (some ⟨b4, 0, none⟩)), (9, .pointer (some ⟨b5, 0, none⟩)), (10, .int .i64 1), (11, .nilIface), (12, .bool false), (23, .bool (a1.Kind == 0))]) (by kernel_rfl) ?_
                refine OpsT.done ?_
                refine Qn.then ?_
                by_cases hb130 : (a1.Kind == 0) = true
                · rw [if_pos hb130] at h1
                  refine CodT.yes' (b := a1.Kind == 0) (by kernel_rfl) hb130 ?_
                  refine CodT.regionL [0] (by kernel_rfl) ?_
                  refine OpsT.pures (r := []) [0] [3, 4, 6, 7, 9, 10] (S' := [(3, .pointer (some ⟨b1, 0, none⟩)), (4, .pointer (some ⟨b2, 0, none⟩)), (6, .pointer (some ⟨b3, 0, none⟩)), (7, .pointer (some ⟨b4, 0, none⟩)), (9, .pointer (some ⟨b5, 0, none⟩)), (10, .int .i64 4)]) (by kernel_rfl) ?_
                  refine OpsT.done ?_
                  refine Qn.block_normal ?_
                  have hI := hI.drop
                  have e := someS h1
                  subst e
                  exact Qn.thenJ fun a ha => ⟨4, rfl, ha.keep [3, 4, 6, 7, 9, 10] (by kernel_rfl), hI⟩
                · rw [if_neg hb130] at h1
                  refine CodT.no' (b := a1.Kind == 0) (by kernel_rfl) (by simpa using hb130) ?_
                  refine CodT.seq ?_
                  refine CodT.regionL [0, 1, 2, 3, 4, 5, 6] (by kernel_rfl) ?_
                  refine OpsT.pures (r := []) [0, 1, 2, 3, 4, 5, 6] [2, 3, 4, 6, 7, 9, 10, 11, 12, 27] (S' := [(2, .int .i64 a2), (3, .pointer (some ⟨b1, 0, none⟩)), (4, .pointer (some ⟨b2, 0, none⟩)), (6, .pointer (some ⟨b3, 0, none⟩)), (7, .pointer (some ⟨b4, 0, none⟩)), (9, .pointer (some ⟨b5, 0, none⟩)), (10, .int .i64 1), (11, .nilIface), (12, .bool false), (27, .bool false)]) (by kernel_rfl) ?_
                  refine OpsT.done ?_
                  refine Qn.then ?_
                  refine CodT.no (by kernel_rfl) ?_
                  refine CodT.seq ?_
                  refine CodT.regionL [0, 1] (by kernel_rfl) ?_
                  refine OpsT.pures (r := []) [0, 1] [3, 4, 6, 7, 9, 10, 11, 40] (S' := [(3, .pointer (some ⟨b1, 0, none⟩)), (4, .pointer (some ⟨b2, 0, none⟩)), (6, .pointer (some ⟨b3, 0, none⟩)), (7, .pointer (some ⟨b4, 0, none⟩)), (9, .pointer (some ⟨b5, 0, none⟩)), (10, .int .i64 1), (11, .nilIface), (40, .bool false)]) (by kernel_rfl) ?_
                  refine OpsT.done ?_
                  refine Qn.then ?_
                  refine CodT.no (by kernel_rfl) ?_
                  refine CodT.skip ?_
                  refine Qn.block_normal ?_
                  have hI := hI.drop
                  have e := someS h1
                  subst e
                  exact Qn.thenJ fun a ha => ⟨1, rfl, ha.keep [3, 4, 6, 7, 9, 10] (by kernel_rfl), hI⟩
              ·
                rintro a w ⟨x129, rfl, ha, hI⟩
                try dsimp only at h0
                refine CodT.of ?_ ha
                refine CodT.seq ?_
                refine CodT.seq ?_
                refine CodT.regionL [0, 1] (by kernel_rfl) ?_
                refine OpsT.pures (r := []) [0, 1] [3, 4, 6, 7, 9, 10, 66] (S' := [(3, .pointer (some ⟨b1, 0, none⟩)), (4, .pointer (some ⟨b2, 0, none⟩)), (6, .pointer (some ⟨b3, 0, none⟩)), (7, .pointer (some ⟨b4, 0, none⟩)), (9, .pointer (some ⟨b5, 0, none⟩)), (10, .int .i64 x129), (66, .bool (x129 != 0))]) (by kernel_rfl) ?_
                refine OpsT.done ?_
                refine Qn.then ?_
                by_cases hb131 : (x129 != 0) = true
                · rw [if_pos hb131] at h0
                  refine CodT.yes' (b := x129 != 0) (by kernel_rfl) hb131 ?_
                  refine CodT.seq ?_
                  refine CodT.regionL [0, 1, 2, 3, 4, 5] (by kernel_rfl) ?_
                  refine OpsT.cons (Does.yi (Yl.load (d := 67) (T := 24) (v := .agg ((([.int .i64 a0_ID, .string a0_Name, .string a0_Data, .bool a0_Sealed, .int .i64 a0_Until, .slice A_a0_Holds a0_Holds.length c_a0_Holds] : List Value))).toArray) (by kernel_rfl) (ldBN ty24 (l := (([.int .i64 a0_ID, .string a0_Name, .string a0_Data, .bool a0_Sealed, .int .i64 a0_Until, .slice A_a0_Holds a0_Holds.length c_a0_Holds] : List Value))) (o := 0) (cs := (([.int .i64 a0_ID, .string a0_Name, .string a0_Data, .bool a0_Sealed, .int .i64 a0_Until, .slice A_a0_Holds a0_Holds.length c_a0_Holds] : List Value))) (pick5 _ _ _ _ _ _) (by kernel_rfl) (whole _ _ (by kernel_rfl)))) hI ?_)
                  refine OpsT.pures (r := [3, 4, 5]) [1, 2] [6, 7, 67, 68, 69] (S' := [(6, .pointer (some ⟨b3, 0, none⟩)), (7, .pointer (some ⟨b4, 0, none⟩)), (67, .agg ((([.int .i64 a0_ID, .string a0_Name, .string a0_Data, .bool a0_Sealed, .int .i64 a0_Until, .slice A_a0_Holds a0_Holds.length c_a0_Holds] : List Value))).toArray), (68, .agg (c_ApiEvent (ApiEvent.mk 0 0 (⟨#[]⟩ : ByteArray) 0 0 (List.replicate 32 (0 : Int)))).toArray), (69, .int .i64 x129)]) (by kernel_rfl) ?_
                  have hI := hI.mono (pick3 _ _ _ _)
                  refine OpsT.cons (Does.storeLit (T := 24) (b := b3) (o := 0) (v := .agg ((([.int .i64 a0_ID, .string a0_Name, .string a0_Data, .bool a0_Sealed, .int .i64 a0_Until, .slice A_a0_Holds a0_Holds.length c_a0_Holds] : List Value))).toArray) (l := (([.int .i64 0, .string (⟨#[]⟩ : ByteArray), .string (⟨#[]⟩ : ByteArray), .bool false, .int .i64 0, .slice none 0 0] : List Value))) (vs := (([.int .i64 a0_ID, .string a0_Name, .string a0_Data, .bool a0_Sealed, .int .i64 a0_Until, .slice A_a0_Holds a0_Holds.length c_a0_Holds] : List Value))) (L' := (([.int .i64 a0_ID, .string a0_Name, .string a0_Data, .bool a0_Sealed, .int .i64 a0_Until, .slice A_a0_Holds a0_Holds.length c_a0_Holds] : List Value))) (by kernel_rfl) ty24 hI (by kernel_rfl) (by kernel_rfl) (by kernel_rfl) (by kernel_rfl) (by kernel_rfl) ?_)
                  intro w hI
                  have hI := hI.mono (pick3 _ _ _ _)
                  refine OpsT.cons (Does.storeLit (T := 39) (b := b4) (o := 0) (v := .agg (c_ApiEvent (ApiEvent.mk 0 0 (⟨#[]⟩ : ByteArray) 0 0 (List.replicate 32 (0 : Int)))).toArray) (l := c_ApiEvent (ApiEvent.mk 0 0 (⟨#[]⟩ : ByteArray) 0 0 (List.replicate 32 (0 : Int)))) (vs := c_ApiEvent (ApiEvent.mk 0 0 (⟨#[]⟩ : ByteArray) 0 0 (List.replicate 32 (0 : Int)))) (L' := c_ApiEvent (ApiEvent.mk 0 0 (⟨#[]⟩ : ByteArray) 0 0 (List.replicate 32 (0 : Int)))) (by kernel_rfl) ty39 hI (by kernel_rfl) (len_ApiEvent _ (by kernel_rfl)) (by rw [(len_ApiEvent _ (by kernel_rfl))]; kernel_rfl) (ones_app _ _ (by kernel_rfl) (ones_cA _)) (lset_all _ _ (Eq.trans (len_ApiEvent _ (by kernel_rfl)) (Eq.symm (len_ApiEvent _ (by kernel_rfl))))) ?_)
                  intro w hI
                  refine OpsT.pures (r := []) [5] [6, 7, 8] (S' := [(6, .pointer (some ⟨b3, 0, none⟩)), (7, .pointer (some ⟨b4, 0, none⟩)), (8, .int .i64 x129)]) (by kernel_rfl) ?_
                  refine OpsT.done ?_
                  refine Qn.then ?_
                  refine CodT.ret ?_
                  refine Qn.ret_then ?_
                  have hL132 := (ldBN ty24 (l := (([.int .i64 a0_ID, .string a0_Name, .string a0_Data, .bool a0_Sealed, .int .i64 a0_Until, .slice A_a0_Holds a0_Holds.length c_a0_Holds] : List Value))) (o := 0) (cs := (([.int .i64 a0_ID, .string a0_Name, .string a0_Data, .bool a0_Sealed, .int .i64 a0_Until, .slice A_a0_Holds a0_Holds.length c_a0_Holds] : List Value))) (pick2 _ _ _) (by kernel_rfl) (whole _ _ (by kernel_rfl))) w hI
                  have hL133 := (ldBN ty39 (l := c_ApiEvent (ApiEvent.mk 0 0 (⟨#[]⟩ : ByteArray) 0 0 (List.replicate 32 (0 : Int)))) (o := 0) (cs := c_ApiEvent (ApiEvent.mk 0 0 (⟨#[]⟩ : ByteArray) 0 0 (List.replicate 32 (0 : Int)))) (ent_refl _) (len_ApiEvent _ (by kernel_rfl)) (whole _ _ (len_ApiEvent _ (by kernel_rfl)))) w hI
                  have hI := hI.drop
                  have hI := hI.drop
                  have hI := hI.drop
                  have hI := hI.drop
                  have hI := hI.drop
                  have e := someS h0
                  subst e
                  refine Qn.keep [6, 7, 8] (S' := [(6, .pointer (some ⟨b3, 0, none⟩)), (7, .pointer (some ⟨b4, 0, none⟩)), (8, .int .i64 x129)]) (by kernel_rfl) ?_
                  exact post_ret (v := .tuple #[.agg ((([.int .i64 a0_ID, .string a0_Name, .string a0_Data, .bool a0_Sealed, .int .i64 a0_Until, .slice A_a0_Holds a0_Holds.length c_a0_Holds] : List Value))).toArray, .agg (c_ApiEvent (ApiEvent.mk 0 0 (⟨#[]⟩ : ByteArray) 0 0 (List.replicate 32 (0 : Int)))).toArray, .int .i64 x129]) (fun a ha => RunRes.run (vs := [.agg ((([.int .i64 a0_ID, .string a0_Name, .string a0_Data, .bool a0_Sealed, .int .i64 a0_Until, .slice A_a0_Holds a0_Holds.length c_a0_Holds] : List Value))).toArray, .agg (c_ApiEvent (ApiEvent.mk 0 0 (⟨#[]⟩ : ByteArray) 0 0 (List.replicate 32 (0 : Int)))).toArray, .int .i64 x129]) (.cell (t := 6) (T := 24) (ad := ⟨b3, 0, none⟩) (by kernel_rfl) hL132 (.cell (t := 7) (T := 39) (ad := ⟨b4, 0, none⟩) (by kernel_rfl) hL133 (.tmp (t := 8) (by kernel_rfl) .nil))) ha (by kernel_rfl)) ⟨A_a0_Holds, c_a0_Holds, Z, Hp.le_refl _, rfl, hr_a0_Holds, (by kernel_rfl), hI⟩
                · rw [if_neg hb131] at h0
                  refine CodT.no' (b := x129 != 0) (by kernel_rfl) (by simpa using hb131) ?_
                  refine CodT.skip ?_
                  refine Qn.then ?_
                  refine CodT.seq ?_
                  refine CodT.drawI (n := 7) [4, 5] (by kernel_rfl) (by kernel_rfl) hI ?_
                  intro w hI
                  refine GmT.r (i := 0) 2 (by kernel_rfl) (by kernel_rfl) (Yl.load (d := 70) (T := 24) (v := .agg ((([.int .i64 a0_ID, .string a0_Name, .string a0_Data, .bool a0_Sealed, .int .i64 a0_Until, .slice A_a0_Holds a0_Holds.length c_a0_Holds] : List Value))).toArray) (by kernel_rfl) (ldBN ty24 (l := (([.int .i64 a0_ID, .string a0_Name, .string a0_Data, .bool a0_Sealed, .int .i64 a0_Until, .slice A_a0_Holds a0_Holds.length c_a0_Holds] : List Value))) (o := 0) (cs := (([.int .i64 a0_ID, .string a0_Name, .string a0_Data, .bool a0_Sealed, .int .i64 a0_Until, .slice A_a0_Holds a0_Holds.length c_a0_Holds] : List Value))) (ent_refl _) (by kernel_rfl) (whole _ _ (by kernel_rfl)))) hI ?_
                  refine GmT.r (i := 1) 3 (by kernel_rfl) (by kernel_rfl) (Yl.load (d := 71) (T := 24) (v := .agg ((([.int .i64 a0_ID, .string a0_Name, .string a0_Data, .bool a0_Sealed, .int .i64 a0_Until, .slice A_a0_Holds a0_Holds.length c_a0_Holds] : List Value))).toArray) (by kernel_rfl) (ldBN ty24 (l := (([.int .i64 a0_ID, .string a0_Name, .string a0_Data, .bool a0_Sealed, .int .i64 a0_Until, .slice A_a0_Holds a0_Holds.length c_a0_Holds] : List Value))) (o := 0) (cs := (([.int .i64 a0_ID, .string a0_Name, .string a0_Data, .bool a0_Sealed, .int .i64 a0_Until, .slice A_a0_Holds a0_Holds.length c_a0_Holds] : List Value))) (pick5 _ _ _ _ _ _) (by kernel_rfl) (whole _ _ (by kernel_rfl)))) hI ?_
                  refine GmT.r (i := 2) 3 (by kernel_rfl) (by kernel_rfl) (Yl.load (d := 72) (T := 43) (v := .agg (c_ApiOp a1).toArray) (by kernel_rfl) (ldBN ty43 (l := c_ApiOp a1) (o := 0) (cs := c_ApiOp a1) (pick4 _ _ _ _ _) (by kernel_rfl) (whole _ _ (by kernel_rfl)))) hI ?_
                  obtain ⟨y135, hc134, h0⟩ := bindS h0
                  try dsimp only at h0
                  refine GmT.o (i := 3) (by kernel_rfl) (Does.call (d := some 73) (n := 34) (vs := [.agg ((([.int .i64 a0_ID, .string a0_Name, .string a0_Data, .bool a0_Sealed, .int .i64 a0_Until, .slice A_a0_Holds a0_Holds.length c_a0_Holds] : List Value))).toArray, .agg (c_ApiOp a1).toArray]) (by kernel_rfl) en34 (c34 w0 w _ _ hI hT a0_ID a0_Name a0_Data a0_Sealed a0_Until A_a0_Holds c_a0_Holds a0_Holds hr_a0_Holds a1 _ hc134) ?_)
                  rintro e w ⟨rfl, hl136, hI⟩
                  refine ⟨_, rfl, ?_⟩
                  refine ⟨fun _ _ => hI, ?_⟩
                  have hI := hI.mono (pick3 _ _ _ _)
                  refine GmT.o (i := 4) (by kernel_rfl) (Does.storeLit (T := 24) (b := b3) (o := 0) (v := .agg ((([.int .i64 a0_ID, .string a0_Name, .string a0_Data, .bool a0_Sealed, .int .i64 a0_Until, .slice A_a0_Holds a0_Holds.length c_a0_Holds] : List Value))).toArray) (l := (([.int .i64 0, .string (⟨#[]⟩ : ByteArray), .string (⟨#[]⟩ : ByteArray), .bool false, .int .i64 0, .slice none 0 0] : List Value))) (vs := (([.int .i64 a0_ID, .string a0_Name, .string a0_Data, .bool a0_Sealed, .int .i64 a0_Until, .slice A_a0_Holds a0_Holds.length c_a0_Holds] : List Value))) (L' := (([.int .i64 a0_ID, .string a0_Name, .string a0_Data, .bool a0_Sealed, .int .i64 a0_Until, .slice A_a0_Holds a0_Holds.length c_a0_Holds] : List Value))) (by kernel_rfl) ty24 hI (by kernel_rfl) (by kernel_rfl) (by kernel_rfl) (by kernel_rfl) (by kernel_rfl) ?_)
                  intro w hI
                  refine ⟨fun h => absurd h (by decide), ?_⟩
                  have hI := hI.mono (pick3 _ _ _ _)
                  refine GmT.o (i := 5) (by kernel_rfl) (Does.storeLit (T := 39) (b := b4) (o := 0) (v := .agg (c_ApiEvent y135).toArray) (l := c_ApiEvent (ApiEvent.mk 0 0 (⟨#[]⟩ : ByteArray) 0 0 (List.replicate 32 (0 : Int)))) (vs := c_ApiEvent y135) (L' := c_ApiEvent y135) (by kernel_rfl) ty39 hI (by kernel_rfl) (len_ApiEvent _ hl136) (by rw [(len_ApiEvent _ (by kernel_rfl))]; kernel_rfl) (ones_app _ _ (by kernel_rfl) (ones_cA _)) (lset_all _ _ (Eq.trans (len_ApiEvent _ hl136) (Eq.symm (len_ApiEvent _ (by kernel_rfl))))) ?_)
                  intro w hI
                  refine ⟨fun h => absurd h (by decide), ?_⟩
                  refine GmT.p' 6 8 (.int .i64 0) (by kernel_rfl) (by kernel_rfl) ?_
                  refine GmT.done (by kernel_rfl) ?_
                  refine Qn.then ?_
                  refine CodT.ret ?_
                  have hL137 := (ldBN ty24 (l := (([.int .i64 a0_ID, .string a0_Name, .string a0_Data, .bool a0_Sealed, .int .i64 a0_Until, .slice A_a0_Holds a0_Holds.length c_a0_Holds] : List Value))) (o := 0) (cs := (([.int .i64 a0_ID, .string a0_Name, .string a0_Data, .bool a0_Sealed, .int .i64 a0_Until, .slice A_a0_Holds a0_Holds.length c_a0_Holds] : List Value))) (pick2 _ _ _) (by kernel_rfl) (whole _ _ (by kernel_rfl))) w hI
                  have hL138 := (ldBN ty39 (l := c_ApiEvent y135) (o := 0) (cs := c_ApiEvent y135) (ent_refl _) (len_ApiEvent _ hl136) (whole _ _ (len_ApiEvent _ hl136))) w hI
                  have hI := hI.drop
                  have hI := hI.drop
                  have hI := hI.drop
                  have hI := hI.drop
                  have hI := hI.drop
                  have e := someS h0
                  subst e
                  refine Qn.keep [6, 7, 8] (S' := [(6, .pointer (some ⟨b3, 0, none⟩)), (7, .pointer (some ⟨b4, 0, none⟩)), (8, .int .i64 0)]) (by kernel_rfl) ?_
                  exact post_ret (v := .tuple #[.agg ((([.int .i64 a0_ID, .string a0_Name, .string a0_Data, .bool a0_Sealed, .int .i64 a0_Until, .slice A_a0_Holds a0_Holds.length c_a0_Holds] : List Value))).toArray, .agg (c_ApiEvent y135).toArray, .int .i64 0]) (fun a ha => RunRes.run (vs := [.agg ((([.int .i64 a0_ID, .string a0_Name, .string a0_Data, .bool a0_Sealed, .int .i64 a0_Until, .slice A_a0_Holds a0_Holds.length c_a0_Holds] : List Value))).toArray, .agg (c_ApiEvent y135).toArray, .int .i64 0]) (.cell (t := 6) (T := 24) (ad := ⟨b3, 0, none⟩) (by kernel_rfl) hL137 (.cell (t := 7) (T := 39) (ad := ⟨b4, 0, none⟩) (by kernel_rfl) hL138 (.tmp (t := 8) (by kernel_rfl) .nil))) ha (by kernel_rfl)) ⟨A_a0_Holds, c_a0_Holds, Z, Hp.le_refl _, rfl, hr_a0_Holds, hl136, hI⟩
set_option maxRecDepth 100000 in
set_option maxHeartbeats 4000000 in
/-- cenotaph/file.Read -/
theorem c11 (w0 w : World) (Z : Hp) (A : HP) (hI : Inv w0 Z w A) (hT : Tabs Z) (a0_ID : Int) (a0_Name : ByteArray) (a0_Data : ByteArray) (a0_Sealed : Bool) (a0_Until : Int) (A_a0_Holds : Option Addr) (c_a0_Holds : Nat) (a0_Holds : (List ByteArray)) (hr_a0_Holds : RdS Z cS 1 A_a0_Holds c_a0_Holds a0_Holds) (a1 : Int) (a2 : Int) (r : (ByteArray × Int)) (h0 : file_Read a0_ID a0_Name a0_Data a0_Sealed a0_Until a0_Holds a1 a2 = some r) :
    Calls prog 11 #[.agg ((([.int .i64 a0_ID, .string a0_Name, .string a0_Data, .bool a0_Sealed, .int .i64 a0_Until, .slice A_a0_Holds a0_Holds.length c_a0_Holds] : List Value))).toArray, .int .i64 a1, .int .i64 a2] w (fun e w' => e = .returned (.tuple #[.string r.1, .int .i64 r.2]) ∧ Inv w0 Z w' A) := by
  have e4 := calls_intro (R := (fun e w' => e = .returned (.tuple #[.string r.1, .int .i64 r.2]) ∧ Inv w0 Z w' A)) (w := w) (args := [.agg ((([.int .i64 a0_ID, .string a0_Name, .string a0_Data, .bool a0_Sealed, .int .i64 a0_Until, .slice A_a0_Holds a0_Holds.length c_a0_Holds] : List Value))).toArray, .int .i64 a1, .int .i64 a2]) (fn := Go.Proofs.Tryd.f11) 27 Go.Proofs.Tryd.func11 (by rfl) Go.Proofs.Tryd.ntmps11 (by kernel_rfl)
  refine e4 ?_
  clear e4
  unfold file_Read at h0
  refine CodT.seq ?_
  refine CodT.regionL [0, 1, 2] (by kernel_rfl) ?_
  refine OpsT.cons (Does.boxL (d := 3) (T := 24) (v := .agg ((([.int .i64 a0_ID, .string a0_Name, .string a0_Data, .bool a0_Sealed, .int .i64 a0_Until, .slice A_a0_Holds a0_Holds.length c_a0_Holds] : List Value))).toArray) ((([.int .i64 a0_ID, .string a0_Name, .string a0_Data, .bool a0_Sealed, .int .i64 a0_Until, .slice A_a0_Holds a0_Holds.length c_a0_Holds] : List Value))) (by kernel_rfl) hI (by kernel_rfl) ?_)
  intro b1 w hI
  refine OpsT.pures (r := []) [1, 2] [1, 2, 3] (S' := [(1, .int .i64 a1), (2, .int .i64 a2), (3, .pointer (some ⟨b1, 0, none⟩))]) (by kernel_rfl) ?_
  refine OpsT.done ?_
  refine Qn.then ?_
  refine CodT.seq ?_
  obtain ⟨r1, h1, h0⟩ := bindS h0
  refine CodT.meet (fun a w => ∃ (x2 : Bool), x2 = r1 ∧ Fr 27 [(1, .int .i64 a1), (2, .int .i64 a2), (3, .pointer (some ⟨b1, 0, none⟩)), (21, .bool x2)] a ∧ Inv w0 Z w (star (pt b1 (.cells ((([.int .i64 a0_ID, .string a0_Name, .string a0_Data, .bool a0_Sealed, .int .i64 a0_Until, .slice A_a0_Holds a0_Holds.length c_a0_Holds] : List Value))).toArray 24 (0, 0))) A)) ?_ ?_
  ·
    refine CodT.regionL [0, 1, 2, 3, 4, 5, 6, 7, 8, 9, 10, 11, 12, 13] (by kernel_rfl) ?_
    refine OpsT.pures (r := [3, 4, 5, 6, 7, 8, 9, 10, 11, 12, 13]) [0, 1, 2] [1, 2, 3, 10] (S' := [(1, .int .i64 a1), (2, .int .i64 a2), (3, .pointer (some ⟨b1, 0, none⟩)), (10, .bool (decide (a1 < 0)))]) (by kernel_rfl) ?_
    by_cases hb3 : (decide (a1 < 0)) = true
    · rw [if_pos hb3] at h1
      refine OpsT.keep [1, 2, 3, 10] (S' := [(1, .int .i64 a1), (2, .int .i64 a2), (3, .pointer (some ⟨b1, 0, none⟩)), (10, .bool true)]) (by (try simp only [hb3]); kernel_rfl) ?_
      refine OpsT.pures (r := []) [3, 4, 5, 6, 7, 8, 9, 10, 11, 12, 13] [1, 2, 3, 21] (S' := [(1, .int .i64 a1), (2, .int .i64 a2), (3, .pointer (some ⟨b1, 0, none⟩)), (21, .bool true)]) (by kernel_rfl) ?_
      refine OpsT.done ?_
      have e := someS h1
      subst e
      exact Qn.thenJ fun a ha => ⟨true, rfl, ha.keep [1, 2, 3, 21] (by kernel_rfl), hI⟩
    · rw [if_neg hb3] at h1
      have hb3 : (decide (a1 < 0)) = false := by simpa using hb3
      refine OpsT.keep [1, 2, 3, 10] (S' := [(1, .int .i64 a1), (2, .int .i64 a2), (3, .pointer (some ⟨b1, 0, none⟩)), (10, .bool false)]) (by (try simp only [hb3]); kernel_rfl) ?_
      refine OpsT.pures (r := [8, 9, 10, 11, 12, 13]) [3, 4, 5, 6, 7] [1, 2, 3, 15] (S' := [(1, .int .i64 a1), (2, .int .i64 a2), (3, .pointer (some ⟨b1, 0, none⟩)), (15, .bool (decide (a2 < a1)))]) (by kernel_rfl) ?_
      by_cases hb4 : (decide (a2 < a1)) = true
      · rw [if_pos hb4] at h1
        refine OpsT.keep [1, 2, 3, 15] (S' := [(1, .int .i64 a1), (2, .int .i64 a2), (3, .pointer (some ⟨b1, 0, none⟩)), (15, .bool true)]) (by (try simp only [hb4]); kernel_rfl) ?_
        refine OpsT.pures (r := []) [8, 9, 10, 11, 12, 13] [1, 2, 3, 21] (S' := [(1, .int .i64 a1), (2, .int .i64 a2), (3, .pointer (some ⟨b1, 0, none⟩)), (21, .bool true)]) (by kernel_rfl) ?_
        refine OpsT.done ?_
        have e := someS h1
        subst e
        exact Qn.thenJ fun a ha => ⟨true, rfl, ha.keep [1, 2, 3, 21] (by kernel_rfl), hI⟩
      · rw [if_neg hb4] at h1
        have hb4 : (decide (a2 < a1)) = false := by simpa using hb4
        refine OpsT.keep [1, 2, 3, 15] (S' := [(1, .int .i64 a1), (2, .int .i64 a2), (3, .pointer (some ⟨b1, 0, none⟩)), (15, .bool false)]) (by (try simp only [hb4]); kernel_rfl) ?_
        refine OpsT.pures (r := [10, 11, 12, 13]) [8, 9] [1, 2, 3, 15, 16, 17] (S' := [(1, .int .i64 a1), (2, .int .i64 a2), (3, .pointer (some ⟨b1, 0, none⟩)), (15, .bool false), (16, .int .i64 a2), (17, .pointer (some ⟨b1, 2, none⟩))]) (by kernel_rfl) ?_
        refine OpsT.cons (Does.yi (Yl.load (d := 18) (T := 9) (v := .string a0_Data) (by kernel_rfl) (ldB ty9 (l := (([.int .i64 a0_ID, .string a0_Name, .string a0_Data, .bool a0_Sealed, .int .i64 a0_Until, .slice A_a0_Holds a0_Holds.length c_a0_Holds] : List Value))) (o := 2) (v := .string a0_Data) (ent_refl _) (by kernel_rfl))) hI ?_)
        refine OpsT.pures (r := []) [11, 12, 13] [1, 2, 3, 21] (S' := [(1, .int .i64 a1), (2, .int .i64 a2), (3, .pointer (some ⟨b1, 0, none⟩)), (21, .bool (decide (a2 > (a0_Data.size : Int))))]) (by kernel_rfl) ?_
        refine OpsT.done ?_
        have e := someS h1
        subst e
        exact Qn.thenJ fun a ha => ⟨decide (a2 > (a0_Data.size : Int)), rfl, ha.keep [1, 2, 3, 21] (by kernel_rfl), hI⟩
  ·
    rintro a w ⟨x2, rfl, ha, hI⟩
    try dsimp only at h0
    refine CodT.of ?_ ha
    by_cases hb5 : x2 = true
    · rw [if_pos hb5] at h0
      refine CodT.yes' (b := x2) (by kernel_rfl) hb5 ?_
      refine CodT.seq ?_
      refine CodT.regionL [0, 1] (by kernel_rfl) ?_
      refine OpsT.pures (r := []) [0, 1] [6, 7] (S' := [(6, .string (⟨#[]⟩ : ByteArray)), (7, .int .i64 1)]) (by kernel_rfl) ?_
      refine OpsT.done ?_
      refine Qn.then ?_
      refine CodT.ret ?_
      refine Qn.ret_then ?_
      have hI := hI.drop
      have e := someS h0
      subst e
      refine Qn.keep [6, 7] (S' := [(6, .string (⟨#[]⟩ : ByteArray)), (7, .int .i64 1)]) (by kernel_rfl) ?_
      exact post_ret (v := .tuple #[.string (⟨#[]⟩ : ByteArray), .int .i64 1]) (fun a ha => RunRes.run (vs := [.string (⟨#[]⟩ : ByteArray), .int .i64 1]) (.tmp (t := 6) (by kernel_rfl) (.tmp (t := 7) (by kernel_rfl) .nil)) ha (by kernel_rfl)) ⟨rfl, hI⟩
    · rw [if_neg hb5] at h0
      refine CodT.no' (b := x2) (by kernel_rfl) (by simpa using hb5) ?_
      refine CodT.skip ?_
      refine Qn.then ?_
      refine CodT.seq ?_
      refine CodT.regionL [0, 1, 2, 3, 4, 5, 6] (by kernel_rfl) ?_
      refine OpsT.pures (r := [1, 2, 3, 4, 5, 6]) [0] [1, 2, 22] (S' := [(1, .int .i64 a1), (2, .int .i64 a2), (22, .pointer (some ⟨b1, 2, none⟩))]) (by kernel_rfl) ?_
      refine OpsT.cons (Does.yi (Yl.load (d := 23) (T := 9) (v := .string a0_Data) (by kernel_rfl) (ldB ty9 (l := (([.int .i64 a0_ID, .string a0_Name, .string a0_Data, .bool a0_Sealed, .int .i64 a0_Until, .slice A_a0_Holds a0_Holds.length c_a0_Holds] : List Value))) (o := 2) (v := .string a0_Data) (ent_refl _) (by kernel_rfl))) hI ?_)
      refine OpsT.pures (r := [4, 5, 6]) [2, 3] [23, 24, 25] (S' := [(23, .string a0_Data), (24, .int .i64 a1), (25, .int .i64 a2)]) (by kernel_rfl) ?_
      obtain ⟨hg6, h0⟩ := guardS h0
      refine OpsT.cons (Does.yi (Yl.sliceStr11 (d := 26) (T := 9) (s := a0_Data) (lo := a1) (hi := a2) (by kernel_rfl) Go.Proofs.Tryd.underlying9 hg6) hI ?_)
      refine OpsT.pures (r := []) [5, 6] [6, 7] (S' := [(6, .string (sx a0_Data a1 a2)), (7, .int .i64 0)]) (by kernel_rfl) ?_
      refine OpsT.done ?_
      refine Qn.then ?_
      refine CodT.ret ?_
      have hI := hI.drop
      have e := someS h0
      subst e
      refine Qn.keep [6, 7] (S' := [(6, .string (sx a0_Data a1 a2)), (7, .int .i64 0)]) (by kernel_rfl) ?_
      exact post_ret (v := .tuple #[.string (sx a0_Data a1 a2), .int .i64 0]) (fun a ha => RunRes.run (vs := [.string (sx a0_Data a1 a2), .int .i64 0]) (.tmp (t := 6) (by kernel_rfl) (.tmp (t := 7) (by kernel_rfl) .nil)) ha (by kernel_rfl)) ⟨rfl, hI⟩
set_option maxRecDepth 100000 in
set_option maxHeartbeats 4000000 in
/-- cenotaph/file.Valid -/
theorem c17 (w0 w : World) (Z : Hp) (A : HP) (hI : Inv w0 Z w A) (hT : Tabs Z) (a0_ID : Int) (a0_Name : ByteArray) (a0_Data : ByteArray) (a0_Sealed : Bool) (a0_Until : Int) (A_a0_Holds : Option Addr) (c_a0_Holds : Nat) (a0_Holds : (List ByteArray)) (hr_a0_Holds : RdS Z cS 1 A_a0_Holds c_a0_Holds a0_Holds) (r : Bool) (h0 : file_Valid a0_ID a0_Name a0_Data a0_Sealed a0_Until a0_Holds = some r) :
    Calls prog 17 #[.agg ((([.int .i64 a0_ID, .string a0_Name, .string a0_Data, .bool a0_Sealed, .int .i64 a0_Until, .slice A_a0_Holds a0_Holds.length c_a0_Holds] : List Value))).toArray] w (fun e w' => e = .returned (.bool r) ∧ Inv w0 Z w' A) := by
  have e4 := calls_intro (R := (fun e w' => e = .returned (.bool r) ∧ Inv w0 Z w' A)) (w := w) (args := [.agg ((([.int .i64 a0_ID, .string a0_Name, .string a0_Data, .bool a0_Sealed, .int .i64 a0_Until, .slice A_a0_Holds a0_Holds.length c_a0_Holds] : List Value))).toArray]) (fn := Go.Proofs.Tryd.f17) 76 Go.Proofs.Tryd.func17 (by rfl) Go.Proofs.Tryd.ntmps17 (by kernel_rfl)
  refine e4 ?_
  clear e4
  unfold file_Valid at h0
  refine CodT.seq ?_
  refine CodT.regionL [0, 1] (by kernel_rfl) ?_
  refine OpsT.cons (Does.boxL (d := 1) (T := 24) (v := .agg ((([.int .i64 a0_ID, .string a0_Name, .string a0_Data, .bool a0_Sealed, .int .i64 a0_Until, .slice A_a0_Holds a0_Holds.length c_a0_Holds] : List Value))).toArray) ((([.int .i64 a0_ID, .string a0_Name, .string a0_Data, .bool a0_Sealed, .int .i64 a0_Until, .slice A_a0_Holds a0_Holds.length c_a0_Holds] : List Value))) (by kernel_rfl) hI (by kernel_rfl) ?_)
  intro b1 w hI
  refine OpsT.pures (r := []) [1] [1] (S' := [(1, .pointer (some ⟨b1, 0, none⟩))]) (by kernel_rfl) ?_
  refine OpsT.done ?_
  refine Qn.then ?_
  refine CodT.seq ?_
  obtain ⟨r1, h1, h0⟩ := bindS h0
  refine CodT.meet (fun a w => ∃ (x2 : Bool), x2 = r1 ∧ Fr 76 [(1, .pointer (some ⟨b1, 0, none⟩)), (36, .bool x2)] a ∧ Inv w0 Z w (star (pt b1 (.cells ((([.int .i64 a0_ID, .string a0_Name, .string a0_Data, .bool a0_Sealed, .int .i64 a0_Until, .slice A_a0_Holds a0_Holds.length c_a0_Holds] : List Value))).toArray 24 (0, 0))) A)) ?_ ?_
  ·
    refine CodT.regionL [0, 1, 2, 3, 4, 5, 6, 7, 8, 9, 10, 11, 12, 13, 14, 15, 16, 17, 18, 19, 20, 21, 22, 23, 24, 25, 26, 27, 28, 29, 30, 31] (by kernel_rfl) ?_
    refine OpsT.pures (r := [1, 2, 3, 4, 5, 6, 7, 8, 9, 10, 11, 12, 13, 14, 15, 16, 17, 18, 19, 20, 21, 22, 23, 24, 25, 26, 27, 28, 29, 30, 31]) [0] [1, 5] (S' := [(1, .pointer (some ⟨b1, 0, none⟩)), (5, .pointer (some ⟨b1, 0, none⟩))]) (by kernel_rfl) ?_
    refine OpsT.cons (Does.yi (Yl.load (d := 6) (T := 3) (v := .int .i64 a0_ID) (by kernel_rfl) (ldB ty3 (l := (([.int .i64 a0_ID, .string a0_Name, .string a0_Data, .bool a0_Sealed, .int .i64 a0_Until, .slice A_a0_Holds a0_Holds.length c_a0_Holds] : List Value))) (o := 0) (v := .int .i64 a0_ID) (ent_refl _) (by kernel_rfl))) hI ?_)
    obtain ⟨y4, hc3, h1⟩ := bindS h1
    try dsimp only at h1
    refine OpsT.cons (Does.call (d := some 7) (n := 27) (vs := [.int .i64 a0_ID]) (by kernel_rfl) en27 (c27 w0 w _ _ hI hT a0_ID _ hc3) ?_)
    rintro e w ⟨rfl, hI⟩
    refine ⟨_, rfl, ?_⟩
    refine OpsT.pures (r := [5, 6, 7, 8, 9, 10, 11, 12, 13, 14, 15, 16, 17, 18, 19, 20, 21, 22, 23, 24, 25, 26, 27, 28, 29, 30, 31]) [3, 4] [1, 9] (S' := [(1, .pointer (some ⟨b1, 0, none⟩)), (9, .bool (!y4))]) (by kernel_rfl) ?_
    by_cases hb5 : (!y4) = true
    · rw [if_pos hb5] at h1
      refine OpsT.keep [1, 9] (S' := [(1, .pointer (some ⟨b1, 0, none⟩)), (9, .bool true)]) (by (try simp only [hb5]); kernel_rfl) ?_
      refine OpsT.pures (r := []) [5, 6, 7, 8, 9, 10, 11, 12, 13, 14, 15, 16, 17, 18, 19, 20, 21, 22, 23, 24, 25, 26, 27, 28, 29, 30, 31] [1, 36] (S' := [(1, .pointer (some ⟨b1, 0, none⟩)), (36, .bool true)]) (by kernel_rfl) ?_
      refine OpsT.done ?_
      have e := someS h1
      subst e
      exact Qn.thenJ fun a ha => ⟨true, rfl, ha.keep [1, 36] (by kernel_rfl), hI⟩
    · rw [if_neg hb5] at h1
      have hb5 : (!y4) = false := by simpa using hb5
      refine OpsT.keep [1, 9] (S' := [(1, .pointer (some ⟨b1, 0, none⟩)), (9, .bool false)]) (by (try simp only [hb5]); kernel_rfl) ?_
      refine OpsT.pures (r := [6, 7, 8, 9, 10, 11, 12, 13, 14, 15, 16, 17, 18, 19, 20, 21, 22, 23, 24, 25, 26, 27, 28, 29, 30, 31]) [5] [1, 9, 10] (S' := [(1, .pointer (some ⟨b1, 0, none⟩)), (9, .bool false), (10, .pointer (some ⟨b1, 1, none⟩))]) (by kernel_rfl) ?_
      refine OpsT.cons (Does.yi (Yl.load (d := 11) (T := 9) (v := .string a0_Name) (by kernel_rfl) (ldB ty9 (l := (([.int .i64 a0_ID, .string a0_Name, .string a0_Data, .bool a0_Sealed, .int .i64 a0_Until, .slice A_a0_Holds a0_Holds.length c_a0_Holds] : List Value))) (o := 1) (v := .string a0_Name) (ent_refl _) (by kernel_rfl))) hI ?_)
      obtain ⟨y7, hc6, h1⟩ := bindS h1
      try dsimp only at h1
      refine OpsT.cons (Does.call (d := some 12) (n := 26) (vs := [.string a0_Name]) (by kernel_rfl) en26 (c26 w0 w _ _ hI hT a0_Name _ hc6) ?_)
      rintro e w ⟨rfl, hI⟩
      refine ⟨_, rfl, ?_⟩
      refine OpsT.pures (r := [11, 12, 13, 14, 15, 16, 17, 18, 19, 20, 21, 22, 23, 24, 25, 26, 27, 28, 29, 30, 31]) [8, 9, 10] [1, 15] (S' := [(1, .pointer (some ⟨b1, 0, none⟩)), (15, .bool (!y7))]) (by kernel_rfl) ?_
      by_cases hb8 : (!y7) = true
      · rw [if_pos hb8] at h1
        refine OpsT.keep [1, 15] (S' := [(1, .pointer (some ⟨b1, 0, none⟩)), (15, .bool true)]) (by (try simp only [hb8]); kernel_rfl) ?_
        refine OpsT.pures (r := []) [11, 12, 13, 14, 15, 16, 17, 18, 19, 20, 21, 22, 23, 24, 25, 26, 27, 28, 29, 30, 31] [1, 36] (S' := [(1, .pointer (some ⟨b1, 0, none⟩)), (36, .bool true)]) (by kernel_rfl) ?_
        refine OpsT.done ?_
        have e := someS h1
        subst e
        exact Qn.thenJ fun a ha => ⟨true, rfl, ha.keep [1, 36] (by kernel_rfl), hI⟩
      · rw [if_neg hb8] at h1
        have hb8 : (!y7) = false := by simpa using hb8
        refine OpsT.keep [1, 15] (S' := [(1, .pointer (some ⟨b1, 0, none⟩)), (15, .bool false)]) (by (try simp only [hb8]); kernel_rfl) ?_
        refine OpsT.pures (r := [12, 13, 14, 15, 16, 17, 18, 19, 20, 21, 22, 23, 24, 25, 26, 27, 28, 29, 30, 31]) [11] [1, 15, 16] (S' := [(1, .pointer (some ⟨b1, 0, none⟩)), (15, .bool false), (16, .pointer (some ⟨b1, 2, none⟩))]) (by kernel_rfl) ?_
        refine OpsT.cons (Does.yi (Yl.load (d := 17) (T := 9) (v := .string a0_Data) (by kernel_rfl) (ldB ty9 (l := (([.int .i64 a0_ID, .string a0_Name, .string a0_Data, .bool a0_Sealed, .int .i64 a0_Until, .slice A_a0_Holds a0_Holds.length c_a0_Holds] : List Value))) (o := 2) (v := .string a0_Data) (ent_refl _) (by kernel_rfl))) hI ?_)
        refine OpsT.pures (r := [17, 18, 19, 20, 21, 22, 23, 24, 25, 26, 27, 28, 29, 30, 31]) [13, 14, 15, 16] [1, 21] (S' := [(1, .pointer (some ⟨b1, 0, none⟩)), (21, .bool (decide ((a0_Data.size : Int) > 600)))]) (by kernel_rfl) ?_
        by_cases hb9 : (decide ((a0_Data.size : Int) > 600)) = true
        · rw [if_pos hb9] at h1
          refine OpsT.keep [1, 21] (S' := [(1, .pointer (some ⟨b1, 0, none⟩)), (21, .bool true)]) (by (try simp only [hb9]); kernel_rfl) ?_
          refine OpsT.pures (r := []) [17, 18, 19, 20, 21, 22, 23, 24, 25, 26, 27, 28, 29, 30, 31] [1, 36] (S' := [(1, .pointer (some ⟨b1, 0, none⟩)), (36, .bool true)]) (by kernel_rfl) ?_
          refine OpsT.done ?_
          have e := someS h1
          subst e
          exact Qn.thenJ fun a ha => ⟨true, rfl, ha.keep [1, 36] (by kernel_rfl), hI⟩
        · rw [if_neg hb9] at h1
          have hb9 : (decide ((a0_Data.size : Int) > 600)) = false := by simpa using hb9
          refine OpsT.keep [1, 21] (S' := [(1, .pointer (some ⟨b1, 0, none⟩)), (21, .bool false)]) (by (try simp only [hb9]); kernel_rfl) ?_
          refine OpsT.pures (r := [18, 19, 20, 21, 22, 23, 24, 25, 26, 27, 28, 29, 30, 31]) [17] [1, 21, 22] (S' := [(1, .pointer (some ⟨b1, 0, none⟩)), (21, .bool false), (22, .pointer (some ⟨b1, 4, none⟩))]) (by kernel_rfl) ?_
          refine OpsT.cons (Does.yi (Yl.load (d := 23) (T := 3) (v := .int .i64 a0_Until) (by kernel_rfl) (ldB ty3 (l := (([.int .i64 a0_ID, .string a0_Name, .string a0_Data, .bool a0_Sealed, .int .i64 a0_Until, .slice A_a0_Holds a0_Holds.length c_a0_Holds] : List Value))) (o := 4) (v := .int .i64 a0_Until) (ent_refl _) (by kernel_rfl))) hI ?_)
          refine OpsT.pures (r := [22, 23, 24, 25, 26, 27, 28, 29, 30, 31]) [19, 20, 21] [1, 26] (S' := [(1, .pointer (some ⟨b1, 0, none⟩)), (26, .bool (decide (a0_Until < 0)))]) (by kernel_rfl) ?_
          by_cases hb10 : (decide (a0_Until < 0)) = true
          · rw [if_pos hb10] at h1
            refine OpsT.keep [1, 26] (S' := [(1, .pointer (some ⟨b1, 0, none⟩)), (26, .bool true)]) (by (try simp only [hb10]); kernel_rfl) ?_
            refine OpsT.pures (r := []) [22, 23, 24, 25, 26, 27, 28, 29, 30, 31] [1, 36] (S' := [(1, .pointer (some ⟨b1, 0, none⟩)), (36, .bool true)]) (by kernel_rfl) ?_
            refine OpsT.done ?_
            have e := someS h1
            subst e
            exact Qn.thenJ fun a ha => ⟨true, rfl, ha.keep [1, 36] (by kernel_rfl), hI⟩
          · rw [if_neg hb10] at h1
            have hb10 : (decide (a0_Until < 0)) = false := by simpa using hb10
            refine OpsT.keep [1, 26] (S' := [(1, .pointer (some ⟨b1, 0, none⟩)), (26, .bool false)]) (by (try simp only [hb10]); kernel_rfl) ?_
            refine OpsT.pures (r := [23, 24, 25, 26, 27, 28, 29, 30, 31]) [22] [1, 26, 27] (S' := [(1, .pointer (some ⟨b1, 0, none⟩)), (26, .bool false), (27, .pointer (some ⟨b1, 4, none⟩))]) (by kernel_rfl) ?_
            refine OpsT.cons (Does.yi (Yl.load (d := 28) (T := 3) (v := .int .i64 a0_Until) (by kernel_rfl) (ldB ty3 (l := (([.int .i64 a0_ID, .string a0_Name, .string a0_Data, .bool a0_Sealed, .int .i64 a0_Until, .slice A_a0_Holds a0_Holds.length c_a0_Holds] : List Value))) (o := 4) (v := .int .i64 a0_Until) (ent_refl _) (by kernel_rfl))) hI ?_)
            refine OpsT.pures (r := [27, 28, 29, 30, 31]) [24, 25, 26] [1, 31] (S' := [(1, .pointer (some ⟨b1, 0, none⟩)), (31, .bool (decide (a0_Until > 1099511627776)))]) (by kernel_rfl) ?_
            by_cases hb11 : (decide (a0_Until > 1099511627776)) = true
            · rw [if_pos hb11] at h1
              refine OpsT.keep [1, 31] (S' := [(1, .pointer (some ⟨b1, 0, none⟩)), (31, .bool true)]) (by (try simp only [hb11]); kernel_rfl) ?_
              refine OpsT.pures (r := []) [27, 28, 29, 30, 31] [1, 36] (S' := [(1, .pointer (some ⟨b1, 0, none⟩)), (36, .bool true)]) (by kernel_rfl) ?_
              refine OpsT.done ?_
              have e := someS h1
              subst e
              exact Qn.thenJ fun a ha => ⟨true, rfl, ha.keep [1, 36] (by kernel_rfl), hI⟩
            · rw [if_neg hb11] at h1
              have hb11 : (decide (a0_Until > 1099511627776)) = false := by simpa using hb11
              refine OpsT.keep [1, 31] (S' := [(1, .pointer (some ⟨b1, 0, none⟩)), (31, .bool false)]) (by (try simp only [hb11]); kernel_rfl) ?_
              refine OpsT.pures (r := [28, 29, 30, 31]) [27] [1, 31, 32] (S' := [(1, .pointer (some ⟨b1, 0, none⟩)), (31, .bool false), (32, .pointer (some ⟨b1, 5, none⟩))]) (by kernel_rfl) ?_
              refine OpsT.cons (Does.yi (Yl.load (d := 33) (T := 22) (v := .slice A_a0_Holds a0_Holds.length c_a0_Holds) (by kernel_rfl) (ldB ty22 (l := (([.int .i64 a0_ID, .string a0_Name, .string a0_Data, .bool a0_Sealed, .int .i64 a0_Until, .slice A_a0_Holds a0_Holds.length c_a0_Holds] : List Value))) (o := 5) (v := .slice A_a0_Holds a0_Holds.length c_a0_Holds) (ent_refl _) (by kernel_rfl))) hI ?_)
              refine OpsT.pures (r := []) [29, 30, 31] [1, 36] (S' := [(1, .pointer (some ⟨b1, 0, none⟩)), (36, .bool (decide ((a0_Holds.length : Int) > 4)))]) (by kernel_rfl) ?_
              refine OpsT.done ?_
              have e := someS h1
              subst e
              exact Qn.thenJ fun a ha => ⟨decide ((a0_Holds.length : Int) > 4), rfl, ha.keep [1, 36] (by kernel_rfl), hI⟩
  ·
    rintro a w ⟨x2, rfl, ha, hI⟩
    try dsimp only at h0
    refine CodT.of ?_ ha
    by_cases hb12 : x2 = true
    · rw [if_pos hb12] at h0
      refine CodT.yes' (b := x2) (by kernel_rfl) hb12 ?_
      refine CodT.seq ?_
      refine CodT.regionL [0] (by kernel_rfl) ?_
      refine OpsT.pures (r := []) [0] [2] (S' := [(2, .bool false)]) (by kernel_rfl) ?_
      refine OpsT.done ?_
      refine Qn.then ?_
      refine CodT.ret ?_
      refine Qn.ret_then ?_
      have hI := hI.drop
      have e := someS h0
      subst e
      refine Qn.keep [2] (S' := [(2, .bool false)]) (by kernel_rfl) ?_
      exact post_ret (v := .bool false) (fun a ha => RunRes.run (vs := [.bool false]) (.tmp (t := 2) (by kernel_rfl) .nil) ha (by kernel_rfl)) ⟨rfl, hI⟩
    · rw [if_neg hb12] at h0
      refine CodT.no' (b := x2) (by kernel_rfl) (by simpa using hb12) ?_
      refine CodT.skip ?_
      refine Qn.then ?_
      refine CodT.seq ?_
      refine CodT.seq ?_
      refine CodT.regionL [0, 1, 2] (by kernel_rfl) ?_
      refine OpsT.pures (r := [1, 2]) [0] [1, 37] (S' := [(1, .pointer (some ⟨b1, 0, none⟩)), (37, .pointer (some ⟨b1, 3, none⟩))]) (by kernel_rfl) ?_
      refine OpsT.cons (Does.yi (Yl.load (d := 38) (T := 4) (v := .bool a0_Sealed) (by kernel_rfl) (ldB ty4 (l := (([.int .i64 a0_ID, .string a0_Name, .string a0_Data, .bool a0_Sealed, .int .i64 a0_Until, .slice A_a0_Holds a0_Holds.length c_a0_Holds] : List Value))) (o := 3) (v := .bool a0_Sealed) (ent_refl _) (by kernel_rfl))) hI ?_)
      refine OpsT.pures (r := []) [2] [1, 39] (S' := [(1, .pointer (some ⟨b1, 0, none⟩)), (39, .bool (!a0_Sealed))]) (by kernel_rfl) ?_
      refine OpsT.done ?_
      refine Qn.then ?_
      by_cases hb13 : (!a0_Sealed) = true
      · rw [if_pos hb13] at h0
        refine CodT.yes' (b := !a0_Sealed) (by kernel_rfl) hb13 ?_
        obtain ⟨r1, h1, h0⟩ := bindS h0
        refine CodT.meet (fun a w => ∃ (x14 : Bool), x14 = r1 ∧ Fr 76 [(2, .bool x14)] a ∧ Inv w0 Z w A) ?_ ?_
        ·
          refine CodT.regionL [0, 1, 2, 3, 4, 5, 6, 7, 8, 9] (by kernel_rfl) ?_
          refine OpsT.pures (r := [1, 2, 3, 4, 5, 6, 7, 8, 9]) [0] [1, 40] (S' := [(1, .pointer (some ⟨b1, 0, none⟩)), (40, .pointer (some ⟨b1, 4, none⟩))]) (by kernel_rfl) ?_
          refine OpsT.cons (Does.yi (Yl.load (d := 41) (T := 3) (v := .int .i64 a0_Until) (by kernel_rfl) (ldB ty3 (l := (([.int .i64 a0_ID, .string a0_Name, .string a0_Data, .bool a0_Sealed, .int .i64 a0_Until, .slice A_a0_Holds a0_Holds.length c_a0_Holds] : List Value))) (o := 4) (v := .int .i64 a0_Until) (ent_refl _) (by kernel_rfl))) hI ?_)
          refine OpsT.pures (r := [4, 5, 6, 7, 8, 9]) [2, 3] [1, 43] (S' := [(1, .pointer (some ⟨b1, 0, none⟩)), (43, .bool (a0_Until == 0))]) (by kernel_rfl) ?_
          by_cases hb15 : (a0_Until == 0) = true
          · rw [if_pos hb15] at h1
            refine OpsT.keep [1, 43] (S' := [(1, .pointer (some ⟨b1, 0, none⟩)), (43, .bool true)]) (by (try simp only [hb15]); kernel_rfl) ?_
            refine OpsT.pures (r := [5, 6, 7, 8, 9]) [4] [43, 44] (S' := [(43, .bool true), (44, .pointer (some ⟨b1, 5, none⟩))]) (by kernel_rfl) ?_
            refine OpsT.cons (Does.yi (Yl.load (d := 45) (T := 22) (v := .slice A_a0_Holds a0_Holds.length c_a0_Holds) (by kernel_rfl) (ldB ty22 (l := (([.int .i64 a0_ID, .string a0_Name, .string a0_Data, .bool a0_Sealed, .int .i64 a0_Until, .slice A_a0_Holds a0_Holds.length c_a0_Holds] : List Value))) (o := 5) (v := .slice A_a0_Holds a0_Holds.length c_a0_Holds) (ent_refl _) (by kernel_rfl))) hI ?_)
            refine OpsT.pures (r := []) [6, 7, 8, 9] [2] (S' := [(2, .bool ((a0_Holds.length : Int) == 0))]) (by kernel_rfl) ?_
            refine OpsT.done ?_
            have hI := hI.drop
            have e := someS h1
            subst e
            exact Qn.thenJ fun a ha => ⟨(a0_Holds.length : Int) == 0, rfl, ha.keep [2] (by kernel_rfl), hI⟩
          · rw [if_neg hb15] at h1
            have hb15 : (a0_Until == 0) = false := by simpa using hb15
            refine OpsT.keep [1, 43] (S' := [(1, .pointer (some ⟨b1, 0, none⟩)), (43, .bool false)]) (by (try simp only [hb15]); kernel_rfl) ?_
            refine OpsT.pures (r := []) [4, 5, 6, 7, 8, 9] [2] (S' := [(2, .bool false)]) (by kernel_rfl) ?_
            refine OpsT.done ?_
            have hI := hI.drop
            have e := someS h1
            subst e
            exact Qn.thenJ fun a ha => ⟨false, rfl, ha.keep [2] (by kernel_rfl), hI⟩
        ·
          rintro a w ⟨x14, rfl, ha, hI⟩
          try dsimp only at h0
          refine CodT.of ?_ ha
          refine CodT.ret ?_
          refine Qn.ret_then ?_
          have e := someS h0
          subst e
          refine Qn.keep [2] (S' := [(2, .bool x14)]) (by kernel_rfl) ?_
          exact post_ret (v := .bool x14) (fun a ha => RunRes.run (vs := [.bool x14]) (.tmp (t := 2) (by kernel_rfl) .nil) ha (by kernel_rfl)) ⟨rfl, hI⟩
      · rw [if_neg hb13] at h0
        refine CodT.no' (b := !a0_Sealed) (by kernel_rfl) (by simpa using hb13) ?_
        refine CodT.skip ?_
        refine Qn.then ?_
        refine CodT.seq ?_
        refine CodT.seq ?_
        refine CodT.regionL [0, 1, 2, 3] (by kernel_rfl) ?_
        refine OpsT.pures (r := [1, 2, 3]) [0] [1, 49] (S' := [(1, .pointer (some ⟨b1, 0, none⟩)), (49, .pointer (some ⟨b1, 5, none⟩))]) (by kernel_rfl) ?_
        refine OpsT.cons (Does.yi (Yl.load (d := 50) (T := 22) (v := .slice A_a0_Holds a0_Holds.length c_a0_Holds) (by kernel_rfl) (ldB ty22 (l := (([.int .i64 a0_ID, .string a0_Name, .string a0_Data, .bool a0_Sealed, .int .i64 a0_Until, .slice A_a0_Holds a0_Holds.length c_a0_Holds] : List Value))) (o := 5) (v := .slice A_a0_Holds a0_Holds.length c_a0_Holds) (ent_refl _) (by kernel_rfl))) hI ?_)
        refine OpsT.pures (r := []) [2, 3] [1, 50, 51, 52] (S' := [(1, .pointer (some ⟨b1, 0, none⟩)), (50, .slice A_a0_Holds a0_Holds.length c_a0_Holds), (51, .int .i64 (a0_Holds.length : Int)), (52, .int .i64 0)]) (by kernel_rfl) ?_
        refine OpsT.done ?_
        refine Qn.then ?_
        obtain ⟨r1, h1, h0⟩ := bindS h0
        refine CodT.meet1 (fun a w => .inr () = r1 ∧ Fr 76 [] a ∧ Inv w0 Z w A) ?_ ?_
        ·
          refine CodT.block ?_
          refine (fun a ha => wp_loopN (fun k a w => ∃ (x16 : Int), file_Valid.l0 a0_Holds k x16 = some r1 ∧ Fr 76 [(1, .pointer (some ⟨b1, 0, none⟩)), (50, .slice A_a0_Holds a0_Holds.length c_a0_Holds), (51, .int .i64 (a0_Holds.length : Int)), (52, .int .i64 x16)] a ∧ Inv w0 Z w (star (pt b1 (.cells ((([.int .i64 a0_ID, .string a0_Name, .string a0_Data, .bool a0_Sealed, .int .i64 a0_Until, .slice A_a0_Holds a0_Holds.length c_a0_Holds] : List Value))).toArray 24 (0, 0))) A)) ?_ FU a w ⟨0, h1, ha.keep [1, 50, 51, 52] (by kernel_rfl), hI⟩)
          clear h1 hI
          rintro k a w ⟨x16, h1, ha, hI⟩
          rcases k with _ | k
          · cases h1
          simp only [file_Valid.l0] at h1
          refine CodT.of ?_ ha
          refine CodT.seq ?_
          refine CodT.regionL [0] (by kernel_rfl) ?_
          refine OpsT.pures (r := []) [0] [1, 50, 51, 52, 53] (S' := [(1, .pointer (some ⟨b1, 0, none⟩)), (50, .slice A_a0_Holds a0_Holds.length c_a0_Holds), (51, .int .i64 (a0_Holds.length : Int)), (52, .int .i64 x16), (53, .bool (decide (x16 < (a0_Holds.length : Int))))]) (by kernel_rfl) ?_
          refine OpsT.done ?_
          refine Qn.then ?_
          refine CodT.seq ?_
          by_cases hb17 : (decide (x16 < (a0_Holds.length : Int))) = true
          · rw [if_pos hb17] at h1
            refine CodT.yes' (b := decide (x16 < (a0_Holds.length : Int))) (by kernel_rfl) hb17 ?_
            refine CodT.skip ?_
            refine Qn.then ?_
            refine CodT.seq ?_
            refine CodT.block ?_
            refine CodT.seq ?_
            refine CodT.regionL [0, 1, 2, 3, 4] (by kernel_rfl) ?_
            refine OpsT.pures (r := [1, 2, 3, 4]) [0] [1, 50, 51, 52, 54] (S' := [(1, .pointer (some ⟨b1, 0, none⟩)), (50, .slice A_a0_Holds a0_Holds.length c_a0_Holds), (51, .int .i64 (a0_Holds.length : Int)), (52, .int .i64 x16), (54, .int .i64 x16)]) (by kernel_rfl) ?_
            obtain ⟨hg18, h1⟩ := guardS h1
            obtain ⟨g19, o23, hA20, hr21, hl22⟩ := RdS.get hr_a0_Holds hg18.1 hg18.2
            refine OpsT.cons (Does.yi (Yl.indexSlice (d := 55) (T := 22) (cc := c_a0_Holds) (k := .i64) (j := x16) (g := g19) (o := o23) (by kernel_rfl) Go.Proofs.Tryd.underlying22 ty9 hA20 hg18.1 hg18.2) hI ?_)
            refine OpsT.cons (Does.yi (Yl.load (d := 56) (T := 9) (v := .string (gt a0_Holds x16)) (by kernel_rfl) (ldR ty9 (v := .string (gt a0_Holds x16)) 0 (fun w hC => hr21 w0 w _ hC) (by kernel_rfl))) hI ?_)
            refine OpsT.pures (r := []) [3, 4] [1, 3, 4, 50, 51, 52] (S' := [(1, .pointer (some ⟨b1, 0, none⟩)), (3, .int .i64 x16), (4, .string (gt a0_Holds x16)), (50, .slice A_a0_Holds a0_Holds.length c_a0_Holds), (51, .int .i64 (a0_Holds.length : Int)), (52, .int .i64 x16)]) (by kernel_rfl) ?_
            refine OpsT.done ?_
            refine Qn.then ?_
            obtain ⟨r2, h2, h1⟩ := bindS h1
            refine CodT.meet (fun a w => ∃ (x24 : Bool), x24 = r2 ∧ Fr 76 [(1, .pointer (some ⟨b1, 0, none⟩)), (50, .slice A_a0_Holds a0_Holds.length c_a0_Holds), (51, .int .i64 (a0_Holds.length : Int)), (52, .int .i64 x16), (74, .bool x24)] a ∧ Inv w0 Z w (star (pt b1 (.cells ((([.int .i64 a0_ID, .string a0_Name, .string a0_Data, .bool a0_Sealed, .int .i64 a0_Until, .slice A_a0_Holds a0_Holds.length c_a0_Holds] : List Value))).toArray 24 (0, 0))) A)) ?_ ?_
            ·
              refine CodT.regionL [0, 1, 2, 3, 4, 5, 6, 7, 8, 9, 10, 11, 12, 13, 14, 15, 16, 17] (by kernel_rfl) ?_
              refine OpsT.pures (r := [1, 2, 3, 4, 5, 6, 7, 8, 9, 10, 11, 12, 13, 14, 15, 16, 17]) [0] [1, 3, 4, 50, 51, 52, 57] (S' := [(1, .pointer (some ⟨b1, 0, none⟩)), (3, .int .i64 x16), (4, .string (gt a0_Holds x16)), (50, .slice A_a0_Holds a0_Holds.length c_a0_Holds), (51, .int .i64 (a0_Holds.length : Int)), (52, .int .i64 x16), (57, .string (gt a0_Holds x16))]) (by kernel_rfl) ?_
              obtain ⟨y26, hc25, h2⟩ := bindS h2
              try dsimp only at h2
              refine OpsT.cons (Does.call (d := some 58) (n := 26) (vs := [.string (gt a0_Holds x16)]) (by kernel_rfl) en26 (c26 w0 w _ _ hI hT (gt a0_Holds x16) _ hc25) ?_)
              rintro e w ⟨rfl, hI⟩
              refine ⟨_, rfl, ?_⟩
              refine OpsT.pures (r := [4, 5, 6, 7, 8, 9, 10, 11, 12, 13, 14, 15, 16, 17]) [2, 3] [1, 3, 4, 50, 51, 52, 60] (S' := [(1, .pointer (some ⟨b1, 0, none⟩)), (3, .int .i64 x16), (4, .string (gt a0_Holds x16)), (50, .slice A_a0_Holds a0_Holds.length c_a0_Holds), (51, .int .i64 (a0_Holds.length : Int)), (52, .int .i64 x16), (60, .bool (!y26))]) (by kernel_rfl) ?_
              by_cases hb27 : (!y26) = true
              · rw [if_pos hb27] at h2
                refine OpsT.keep [1, 3, 4, 50, 51, 52, 60] (S' := [(1, .pointer (some ⟨b1, 0, none⟩)), (3, .int .i64 x16), (4, .string (gt a0_Holds x16)), (50, .slice A_a0_Holds a0_Holds.length c_a0_Holds), (51, .int .i64 (a0_Holds.length : Int)), (52, .int .i64 x16), (60, .bool true)]) (by (try simp only [hb27]); kernel_rfl) ?_
                refine OpsT.pures (r := []) [4, 5, 6, 7, 8, 9, 10, 11, 12, 13, 14, 15, 16, 17] [1, 50, 51, 52, 74] (S' := [(1, .pointer (some ⟨b1, 0, none⟩)), (50, .slice A_a0_Holds a0_Holds.length c_a0_Holds), (51, .int .i64 (a0_Holds.length : Int)), (52, .int .i64 x16), (74, .bool true)]) (by kernel_rfl) ?_
                refine OpsT.done ?_
                have e := someS h2
                subst e
                exact Qn.thenJ fun a ha => ⟨true, rfl, ha.keep [1, 50, 51, 52, 74] (by kernel_rfl), hI⟩
              · rw [if_neg hb27] at h2
                have hb27 : (!y26) = false := by simpa using hb27
                refine OpsT.keep [1, 3, 4, 50, 51, 52, 60] (S' := [(1, .pointer (some ⟨b1, 0, none⟩)), (3, .int .i64 x16), (4, .string (gt a0_Holds x16)), (50, .slice A_a0_Holds a0_Holds.length c_a0_Holds), (51, .int .i64 (a0_Holds.length : Int)), (52, .int .i64 x16), (60, .bool false)]) (by (try simp only [hb27]); kernel_rfl) ?_
                refine OpsT.pures (r := [7, 8, 9, 10, 11, 12, 13, 14, 15, 16, 17]) [4, 5, 6] [1, 3, 4, 50, 51, 52, 60, 63] (S' := [(1, .pointer (some ⟨b1, 0, none⟩)), (3, .int .i64 x16), (4, .string (gt a0_Holds x16)), (50, .slice A_a0_Holds a0_Holds.length c_a0_Holds), (51, .int .i64 (a0_Holds.length : Int)), (52, .int .i64 x16), (60, .bool false), (63, .bool (decide (x16 > 0)))]) (by kernel_rfl) ?_
                by_cases hb28 : (decide (x16 > 0)) = true
                · rw [if_pos hb28] at h2
                  refine OpsT.keep [1, 3, 4, 50, 51, 52, 60, 63] (S' := [(1, .pointer (some ⟨b1, 0, none⟩)), (3, .int .i64 x16), (4, .string (gt a0_Holds x16)), (50, .slice A_a0_Holds a0_Holds.length c_a0_Holds), (51, .int .i64 (a0_Holds.length : Int)), (52, .int .i64 x16), (60, .bool false), (63, .bool true)]) (by (try simp only [hb28]); kernel_rfl) ?_
                  refine OpsT.pures (r := [8, 9, 10, 11, 12, 13, 14, 15, 16, 17]) [7] [1, 3, 4, 50, 51, 52, 60, 63, 64] (S' := [(1, .pointer (some ⟨b1, 0, none⟩)), (3, .int .i64 x16), (4, .string (gt a0_Holds x16)), (50, .slice A_a0_Holds a0_Holds.length c_a0_Holds), (51, .int .i64 (a0_Holds.length : Int)), (52, .int .i64 x16), (60, .bool false), (63, .bool true), (64, .pointer (some ⟨b1, 5, none⟩))]) (by kernel_rfl) ?_
                  refine OpsT.cons (Does.yi (Yl.load (d := 65) (T := 22) (v := .slice A_a0_Holds a0_Holds.length c_a0_Holds) (by kernel_rfl) (ldB ty22 (l := (([.int .i64 a0_ID, .string a0_Name, .string a0_Data, .bool a0_Sealed, .int .i64 a0_Until, .slice A_a0_Holds a0_Holds.length c_a0_Holds] : List Value))) (o := 5) (v := .slice A_a0_Holds a0_Holds.length c_a0_Holds) (ent_refl _) (by kernel_rfl))) hI ?_)
                  refine OpsT.pures (r := [11, 12, 13, 14, 15, 16, 17]) [9, 10] [1, 4, 50, 51, 52, 60, 63, 65, 67] (S' := [(1, .pointer (some ⟨b1, 0, none⟩)), (4, .string (gt a0_Holds x16)), (50, .slice A_a0_Holds a0_Holds.length c_a0_Holds), (51, .int .i64 (a0_Holds.length : Int)), (52, .int .i64 x16), (60, .bool false), (63, .bool true), (65, .slice A_a0_Holds a0_Holds.length c_a0_Holds), (67, .int .i64 (wi64 (x16 - 1)))]) (by kernel_rfl) ?_
                  obtain ⟨hg29, h2⟩ := guardS h2
                  obtain ⟨g30, o34, hA31, hr32, hl33⟩ := RdS.get hr_a0_Holds hg29.1 hg29.2
                  refine OpsT.cons (Does.yi (Yl.indexSlice (d := 68) (T := 22) (cc := c_a0_Holds) (k := .i64) (j := wi64 (x16 - 1)) (g := g30) (o := o34) (by kernel_rfl) Go.Proofs.Tryd.underlying22 ty9 hA31 hg29.1 hg29.2) hI ?_)
                  refine OpsT.cons (Does.yi (Yl.load (d := 69) (T := 9) (v := .string (gt a0_Holds (wi64 (x16 - 1)))) (by kernel_rfl) (ldR ty9 (v := .string (gt a0_Holds (wi64 (x16 - 1)))) 0 (fun w hC => hr32 w0 w _ hC) (by kernel_rfl))) hI ?_)
                  refine OpsT.pures (r := [14, 15, 16, 17]) [13] [1, 50, 51, 52, 60, 63, 69, 70] (S' := [(1, .pointer (some ⟨b1, 0, none⟩)), (50, .slice A_a0_Holds a0_Holds.length c_a0_Holds), (51, .int .i64 (a0_Holds.length : Int)), (52, .int .i64 x16), (60, .bool false), (63, .bool true), (69, .string (gt a0_Holds (wi64 (x16 - 1)))), (70, .string (gt a0_Holds x16))]) (by kernel_rfl) ?_
                  obtain ⟨y36, hc35, h2⟩ := bindS h2
                  try dsimp only at h2
                  refine OpsT.cons (Does.call (d := some 71) (n := 31) (vs := [.string (gt a0_Holds (wi64 (x16 - 1))), .string (gt a0_Holds x16)]) (by kernel_rfl) en31 (c31 w0 w _ _ hI hT (gt a0_Holds (wi64 (x16 - 1))) (gt a0_Holds x16) _ hc35) ?_)
                  rintro e w ⟨rfl, hI⟩
                  refine ⟨_, rfl, ?_⟩
                  refine OpsT.pures (r := []) [15, 16, 17] [1, 50, 51, 52, 74] (S' := [(1, .pointer (some ⟨b1, 0, none⟩)), (50, .slice A_a0_Holds a0_Holds.length c_a0_Holds), (51, .int .i64 (a0_Holds.length : Int)), (52, .int .i64 x16), (74, .bool (!y36))]) (by kernel_rfl) ?_
                  refine OpsT.done ?_
                  have e := someS h2
                  subst e
                  exact Qn.thenJ fun a ha => ⟨!y36, rfl, ha.keep [1, 50, 51, 52, 74] (by kernel_rfl), hI⟩
                · rw [if_neg hb28] at h2
                  have hb28 : (decide (x16 > 0)) = false := by simpa using hb28
                  refine OpsT.keep [1, 3, 4, 50, 51, 52, 60, 63] (S' := [(1, .pointer (some ⟨b1, 0, none⟩)), (3, .int .i64 x16), (4, .string (gt a0_Holds x16)), (50, .slice A_a0_Holds a0_Holds.length c_a0_Holds), (51, .int .i64 (a0_Holds.length : Int)), (52, .int .i64 x16), (60, .bool false), (63, .bool false)]) (by (try simp only [hb28]); kernel_rfl) ?_
                  refine OpsT.pures (r := []) [7, 8, 9, 10, 11, 12, 13, 14, 15, 16, 17] [1, 50, 51, 52, 74] (S' := [(1, .pointer (some ⟨b1, 0, none⟩)), (50, .slice A_a0_Holds a0_Holds.length c_a0_Holds), (51, .int .i64 (a0_Holds.length : Int)), (52, .int .i64 x16), (74, .bool false)]) (by kernel_rfl) ?_
                  refine OpsT.done ?_
                  have e := someS h2
                  subst e
                  exact Qn.thenJ fun a ha => ⟨false, rfl, ha.keep [1, 50, 51, 52, 74] (by kernel_rfl), hI⟩
            ·
              rintro a w ⟨x24, rfl, ha, hI⟩
              try dsimp only at h1
              refine CodT.of ?_ ha
              by_cases hb37 : x24 = true
              · rw [if_pos hb37] at h1
                refine CodT.yes' (b := x24) (by kernel_rfl) hb37 ?_
                refine CodT.seq ?_
                refine CodT.regionL [0] (by kernel_rfl) ?_
                refine OpsT.pures (r := []) [0] [2] (S' := [(2, .bool false)]) (by kernel_rfl) ?_
                refine OpsT.done ?_
                refine Qn.then ?_
                refine CodT.ret ?_
                refine Qn.block_ret ?_
                refine Qn.ret_then ?_
                refine Qn.ret_then ?_
                refine Qn.block_ret ?_
                refine Qn.ret_then ?_
                refine Qn.ret_then ?_
                have hI := hI.drop
                have e := someS h1
                subst e
                try dsimp only at h0
                have e := someS h0
                subst e
                refine Qn.keep [2] (S' := [(2, .bool false)]) (by kernel_rfl) ?_
                exact post_ret (v := .bool false) (fun a ha => RunRes.run (vs := [.bool false]) (.tmp (t := 2) (by kernel_rfl) .nil) ha (by kernel_rfl)) ⟨rfl, hI⟩
              · rw [if_neg hb37] at h1
                refine CodT.no' (b := x24) (by kernel_rfl) (by simpa using hb37) ?_
                refine CodT.skip ?_
                refine Qn.block_normal ?_
                refine Qn.then ?_
                refine CodT.regionL [0, 1] (by kernel_rfl) ?_
                refine OpsT.pures (r := []) [0, 1] [1, 50, 51, 52] (S' := [(1, .pointer (some ⟨b1, 0, none⟩)), (50, .slice A_a0_Holds a0_Holds.length c_a0_Holds), (51, .int .i64 (a0_Holds.length : Int)), (52, .int .i64 (wi64 (x16 + 1)))]) (by kernel_rfl) ?_
                refine OpsT.done ?_
                exact Qn.thenJ fun a ha => ⟨k, Nat.lt_succ_self k, wi64 (x16 + 1), h1, ha.keep [1, 50, 51, 52] (by kernel_rfl), hI⟩
          · rw [if_neg hb17] at h1
            refine CodT.no' (b := decide (x16 < (a0_Holds.length : Int))) (by kernel_rfl) (by simpa using hb17) ?_
            refine CodT.exit ?_
            refine Qn.exit_then ?_
            refine Qn.exit_then ?_
            refine Qn.block ?_
            have hI := hI.drop
            have e := someS h1
            subst e
            exact Qn.thenJ fun a ha => ⟨rfl, ha.keep [] (by kernel_rfl), hI⟩
        ·
          rintro a w ⟨rfl, ha, hI⟩
          try dsimp only at h0
          refine Qn.of ?_ ha
          refine Qn.then ?_
          refine CodT.seq ?_
          refine CodT.regionL [0] (by kernel_rfl) ?_
          refine OpsT.pures (r := []) [0] [2] (S' := [(2, .bool true)]) (by kernel_rfl) ?_
          refine OpsT.done ?_
          refine Qn.then ?_
          refine CodT.ret ?_
          have e := someS h0
          subst e
          refine Qn.keep [2] (S' := [(2, .bool true)]) (by kernel_rfl) ?_
          exact post_ret (v := .bool true) (fun a ha => RunRes.run (vs := [.bool true]) (.tmp (t := 2) (by kernel_rfl) .nil) ha (by kernel_rfl)) ⟨rfl, hI⟩
set_option maxRecDepth 100000 in
set_option maxHeartbeats 4000000 in
/-- slices.Equal[[]string,string] -/
theorem c32 (w0 w : World) (Z : Hp) (A : HP) (hI : Inv w0 Z w A) (hT : Tabs Z) (A_a0 : Option Addr) (c_a0 : Nat) (a0 : (List ByteArray)) (hr_a0 : RdS Z cS 1 A_a0 c_a0 a0) (A_a1 : Option Addr) (c_a1 : Nat) (a1 : (List ByteArray)) (hr_a1 : RdS Z cS 1 A_a1 c_a1 a1) (r : Bool) (h0 : slices_Equal_string a0 a1 = some r) :
    Calls prog 32 #[.slice A_a0 a0.length c_a0, .slice A_a1 a1.length c_a1] w (fun e w' => e = .returned (.bool r) ∧ Inv w0 Z w' A) := by
  have e4 := calls_intro (R := (fun e w' => e = .returned (.bool r) ∧ Inv w0 Z w' A)) (w := w) (args := [.slice A_a0 a0.length c_a0, .slice A_a1 a1.length c_a1]) (fn := Go.Proofs.Tryd.f32) 26 Go.Proofs.Tryd.func32 (by rfl) Go.Proofs.Tryd.ntmps32 (by kernel_rfl)
  refine e4 ?_
  clear e4
  unfold slices_Equal_string at h0
  refine CodT.seq ?_
  refine CodT.regionL [0] (by kernel_rfl) ?_
  refine OpsT.pures (r := []) [0] [0, 1] (S' := [(0, .slice A_a0 a0.length c_a0), (1, .slice A_a1 a1.length c_a1)]) (by kernel_rfl) ?_
  refine OpsT.done ?_
  refine Qn.then ?_
  refine CodT.seq ?_
  refine CodT.seq ?_
  refine CodT.regionL [0, 1, 2, 3, 4] (by kernel_rfl) ?_
  refine OpsT.pures (r := []) [0, 1, 2, 3, 4] [0, 1, 10] (S' := [(0, .slice A_a0 a0.length c_a0), (1, .slice A_a1 a1.length c_a1), (10, .bool ((a0.length : Int) != (a1.length : Int)))]) (by kernel_rfl) ?_
  refine OpsT.done ?_
  refine Qn.then ?_
  by_cases hb1 : ((a0.length : Int) != (a1.length : Int)) = true
  · rw [if_pos hb1] at h0
    refine CodT.yes' (b := (a0.length : Int) != (a1.length : Int)) (by kernel_rfl) hb1 ?_
    refine CodT.seq ?_
    refine CodT.regionL [0] (by kernel_rfl) ?_
    refine OpsT.pures (r := []) [0] [4] (S' := [(4, .bool false)]) (by kernel_rfl) ?_
    refine OpsT.done ?_
    refine Qn.then ?_
    refine CodT.ret ?_
    refine Qn.ret_then ?_
    have e := someS h0
    subst e
    refine Qn.keep [4] (S' := [(4, .bool false)]) (by kernel_rfl) ?_
    exact post_ret (v := .bool false) (fun a ha => RunRes.run (vs := [.bool false]) (.tmp (t := 4) (by kernel_rfl) .nil) ha (by kernel_rfl)) ⟨rfl, hI⟩
  · rw [if_neg hb1] at h0
    refine CodT.no' (b := (a0.length : Int) != (a1.length : Int)) (by kernel_rfl) (by simpa using hb1) ?_
    refine CodT.skip ?_
    refine Qn.then ?_
    refine CodT.seq ?_
    refine CodT.seq ?_
    refine CodT.regionL [0, 1, 2] (by kernel_rfl) ?_
    refine OpsT.pures (r := []) [0, 1, 2] [0, 1, 12, 13] (S' := [(0, .slice A_a0 a0.length c_a0), (1, .slice A_a1 a1.length c_a1), (12, .int .i64 (a0.length : Int)), (13, .int .i64 0)]) (by kernel_rfl) ?_
    refine OpsT.done ?_
    refine Qn.then ?_
    obtain ⟨r1, h1, h0⟩ := bindS h0
    refine CodT.meet1 (fun a w => .inr () = r1 ∧ Fr 26 [] a ∧ Inv w0 Z w A) ?_ ?_
    ·
      refine CodT.block ?_
      refine (fun a ha => wp_loopN (fun k a w => ∃ (x2 : Int), slices_Equal_string.l0 a0 a1 k x2 = some r1 ∧ Fr 26 [(0, .slice A_a0 a0.length c_a0), (1, .slice A_a1 a1.length c_a1), (12, .int .i64 (a0.length : Int)), (13, .int .i64 x2)] a ∧ Inv w0 Z w A) ?_ FU a w ⟨0, h1, ha.keep [0, 1, 12, 13] (by kernel_rfl), hI⟩)
      clear h1 hI
      rintro k a w ⟨x2, h1, ha, hI⟩
      rcases k with _ | k
      · cases h1
      simp only [slices_Equal_string.l0] at h1
      refine CodT.of ?_ ha
      refine CodT.seq ?_
      refine CodT.regionL [0] (by kernel_rfl) ?_
      refine OpsT.pures (r := []) [0] [0, 1, 12, 13, 14] (S' := [(0, .slice A_a0 a0.length c_a0), (1, .slice A_a1 a1.length c_a1), (12, .int .i64 (a0.length : Int)), (13, .int .i64 x2), (14, .bool (decide (x2 < (a0.length : Int))))]) (by kernel_rfl) ?_
      refine OpsT.done ?_
      refine Qn.then ?_
      refine CodT.seq ?_
      by_cases hb3 : (decide (x2 < (a0.length : Int))) = true
      · rw [if_pos hb3] at h1
        refine CodT.yes' (b := decide (x2 < (a0.length : Int))) (by kernel_rfl) hb3 ?_
        refine CodT.skip ?_
        refine Qn.then ?_
        refine CodT.seq ?_
        refine CodT.block ?_
        refine CodT.seq ?_
        refine CodT.regionL [0, 1] (by kernel_rfl) ?_
        refine OpsT.pures (r := []) [0, 1] [0, 1, 5, 12, 13] (S' := [(0, .slice A_a0 a0.length c_a0), (1, .slice A_a1 a1.length c_a1), (5, .int .i64 x2), (12, .int .i64 (a0.length : Int)), (13, .int .i64 x2)]) (by kernel_rfl) ?_
        refine OpsT.done ?_
        refine Qn.then ?_
        refine CodT.seq ?_
        refine CodT.drawI (n := 9) [] (by kernel_rfl) (by kernel_rfl) hI ?_
        intro w hI
        refine GmT.p' 0 16 (.slice A_a0 a0.length c_a0) (by kernel_rfl) (by kernel_rfl) ?_
        refine GmT.p' 1 17 (.int .i64 x2) (by kernel_rfl) (by kernel_rfl) ?_
        refine GmT.p' 4 20 (.slice A_a1 a1.length c_a1) (by kernel_rfl) (by kernel_rfl) ?_
        refine GmT.p' 5 21 (.int .i64 x2) (by kernel_rfl) (by kernel_rfl) ?_
        obtain ⟨hg4, h1⟩ := guardS h1
        obtain ⟨g5, o9, hA6, hr7, hl8⟩ := RdS.get hr_a0 hg4.1 hg4.2
        refine GmT.r (i := 2) 2 (by kernel_rfl) (by kernel_rfl) (Yl.indexSlice (d := 18) (T := 22) (cc := c_a0) (k := .i64) (j := x2) (g := g5) (o := o9) (by kernel_rfl) Go.Proofs.Tryd.underlying22 ty9 hA6 hg4.1 hg4.2) hI ?_
        refine GmT.r (i := 3) 2 (by kernel_rfl) (by kernel_rfl) (Yl.load (d := 19) (T := 9) (v := .string (gt a0 x2)) (by kernel_rfl) (ldR ty9 (v := .string (gt a0 x2)) 0 (fun w hC => hr7 w0 w _ hC) (by kernel_rfl))) hI ?_
        obtain ⟨hg10, h1⟩ := guardS h1
        obtain ⟨g11, o15, hA12, hr13, hl14⟩ := RdS.get hr_a1 hg10.1 hg10.2
        refine GmT.r (i := 6) 2 (by kernel_rfl) (by kernel_rfl) (Yl.indexSlice (d := 22) (T := 22) (cc := c_a1) (k := .i64) (j := x2) (g := g11) (o := o15) (by kernel_rfl) Go.Proofs.Tryd.underlying22 ty9 hA12 hg10.1 hg10.2) hI ?_
        refine GmT.r (i := 7) 2 (by kernel_rfl) (by kernel_rfl) (Yl.load (d := 23) (T := 9) (v := .string (gt a1 x2)) (by kernel_rfl) (ldR ty9 (v := .string (gt a1 x2)) 0 (fun w hC => hr13 w0 w _ hC) (by kernel_rfl))) hI ?_
        refine GmT.p' 8 24 (.bool (!(seq (gt a0 x2) (gt a1 x2)))) (by kernel_rfl) (by kernel_rfl) ?_
        refine GmT.done (by kernel_rfl) ?_
        refine Qn.then ?_
        by_cases hb16 : (!(seq (gt a0 x2) (gt a1 x2))) = true
        · rw [if_pos hb16] at h1
          refine CodT.yes' (b := !(seq (gt a0 x2) (gt a1 x2))) (by kernel_rfl) hb16 ?_
          refine CodT.seq ?_
          refine CodT.regionL [0] (by kernel_rfl) ?_
          refine OpsT.pures (r := []) [0] [4] (S' := [(4, .bool false)]) (by kernel_rfl) ?_
          refine OpsT.done ?_
          refine Qn.then ?_
          refine CodT.ret ?_
          refine Qn.block_ret ?_
          refine Qn.ret_then ?_
          refine Qn.ret_then ?_
          refine Qn.block_ret ?_
          refine Qn.ret_then ?_
          refine Qn.ret_then ?_
          have e := someS h1
          subst e
          try dsimp only at h0
          have e := someS h0
          subst e
          refine Qn.keep [4] (S' := [(4, .bool false)]) (by kernel_rfl) ?_
          exact post_ret (v := .bool false) (fun a ha => RunRes.run (vs := [.bool false]) (.tmp (t := 4) (by kernel_rfl) .nil) ha (by kernel_rfl)) ⟨rfl, hI⟩
        · rw [if_neg hb16] at h1
          refine CodT.no' (b := !(seq (gt a0 x2) (gt a1 x2))) (by kernel_rfl) (by simpa using hb16) ?_
          refine CodT.skip ?_
          refine Qn.block_normal ?_
          refine Qn.then ?_
          refine CodT.regionL [0, 1] (by kernel_rfl) ?_
          refine OpsT.pures (r := []) [0, 1] [0, 1, 12, 13] (S' := [(0, .slice A_a0 a0.length c_a0), (1, .slice A_a1 a1.length c_a1), (12, .int .i64 (a0.length : Int)), (13, .int .i64 (wi64 (x2 + 1)))]) (by kernel_rfl) ?_
          refine OpsT.done ?_
          exact Qn.thenJ fun a ha => ⟨k, Nat.lt_succ_self k, wi64 (x2 + 1), h1, ha.keep [0, 1, 12, 13] (by kernel_rfl), hI⟩
      · rw [if_neg hb3] at h1
        refine CodT.no' (b := decide (x2 < (a0.length : Int))) (by kernel_rfl) (by simpa using hb3) ?_
        refine CodT.exit ?_
        refine Qn.exit_then ?_
        refine Qn.exit_then ?_
        refine Qn.block ?_
        have e := someS h1
        subst e
        exact Qn.thenJ fun a ha => ⟨rfl, ha.keep [] (by kernel_rfl), hI⟩
    ·
      rintro a w ⟨rfl, ha, hI⟩
      try dsimp only at h0
      refine Qn.of ?_ ha
      refine Qn.then ?_
      refine CodT.seq ?_
      refine CodT.regionL [0] (by kernel_rfl) ?_
      refine OpsT.pures (r := []) [0] [4] (S' := [(4, .bool true)]) (by kernel_rfl) ?_
      refine OpsT.done ?_
      refine Qn.then ?_
      refine CodT.ret ?_
      have e := someS h0
      subst e
      refine Qn.keep [4] (S' := [(4, .bool true)]) (by kernel_rfl) ?_
      exact post_ret (v := .bool true) (fun a ha => RunRes.run (vs := [.bool true]) (.tmp (t := 4) (by kernel_rfl) .nil) ha (by kernel_rfl)) ⟨rfl, hI⟩
set_option maxRecDepth 100000 in
set_option maxHeartbeats 4000000 in
/-- cenotaph/file.Same -/
theorem c18 (w0 w : World) (Z : Hp) (A : HP) (hI : Inv w0 Z w A) (hT : Tabs Z) (a0_ID : Int) (a0_Name : ByteArray) (a0_Data : ByteArray) (a0_Sealed : Bool) (a0_Until : Int) (A_a0_Holds : Option Addr) (c_a0_Holds : Nat) (a0_Holds : (List ByteArray)) (hr_a0_Holds : RdS Z cS 1 A_a0_Holds c_a0_Holds a0_Holds) (a1_ID : Int) (a1_Name : ByteArray) (a1_Data : ByteArray) (a1_Sealed : Bool) (a1_Until : Int) (A_a1_Holds : Option Addr) (c_a1_Holds : Nat) (a1_Holds : (List ByteArray)) (hr_a1_Holds : RdS Z cS 1 A_a1_Holds c_a1_Holds a1_Holds) (r : Bool) (h0 : file_Same a0_ID a0_Name a0_Data a0_Sealed a0_Until a0_Holds a1_ID a1_Name a1_Data a1_Sealed a1_Until a1_Holds = some r) :
    Calls prog 18 #[.agg ((([.int .i64 a0_ID, .string a0_Name, .string a0_Data, .bool a0_Sealed, .int .i64 a0_Until, .slice A_a0_Holds a0_Holds.length c_a0_Holds] : List Value))).toArray, .agg ((([.int .i64 a1_ID, .string a1_Name, .string a1_Data, .bool a1_Sealed, .int .i64 a1_Until, .slice A_a1_Holds a1_Holds.length c_a1_Holds] : List Value))).toArray] w (fun e w' => e = .returned (.bool r) ∧ Inv w0 Z w' A) := by
  have e4 := calls_intro (R := (fun e w' => e = .returned (.bool r) ∧ Inv w0 Z w' A)) (w := w) (args := [.agg ((([.int .i64 a0_ID, .string a0_Name, .string a0_Data, .bool a0_Sealed, .int .i64 a0_Until, .slice A_a0_Holds a0_Holds.length c_a0_Holds] : List Value))).toArray, .agg ((([.int .i64 a1_ID, .string a1_Name, .string a1_Data, .bool a1_Sealed, .int .i64 a1_Until, .slice A_a1_Holds a1_Holds.length c_a1_Holds] : List Value))).toArray]) (fn := Go.Proofs.Tryd.f18) 45 Go.Proofs.Tryd.func18 (by rfl) Go.Proofs.Tryd.ntmps18 (by kernel_rfl)
  refine e4 ?_
  clear e4
  unfold file_Same at h0
  refine CodT.seq ?_
  refine CodT.regionL [0, 1, 2] (by kernel_rfl) ?_
  refine OpsT.cons (Does.boxL (d := 2) (T := 24) (v := .agg ((([.int .i64 a0_ID, .string a0_Name, .string a0_Data, .bool a0_Sealed, .int .i64 a0_Until, .slice A_a0_Holds a0_Holds.length c_a0_Holds] : List Value))).toArray) ((([.int .i64 a0_ID, .string a0_Name, .string a0_Data, .bool a0_Sealed, .int .i64 a0_Until, .slice A_a0_Holds a0_Holds.length c_a0_Holds] : List Value))) (by kernel_rfl) hI (by kernel_rfl) ?_)
  intro b1 w hI
  refine OpsT.cons (Does.boxL (d := 3) (T := 24) (v := .agg ((([.int .i64 a1_ID, .string a1_Name, .string a1_Data, .bool a1_Sealed, .int .i64 a1_Until, .slice A_a1_Holds a1_Holds.length c_a1_Holds] : List Value))).toArray) ((([.int .i64 a1_ID, .string a1_Name, .string a1_Data, .bool a1_Sealed, .int .i64 a1_Until, .slice A_a1_Holds a1_Holds.length c_a1_Holds] : List Value))) (by kernel_rfl) hI (by kernel_rfl) ?_)
  intro b2 w hI
  refine OpsT.pures (r := []) [2] [2, 3] (S' := [(2, .pointer (some ⟨b1, 0, none⟩)), (3, .pointer (some ⟨b2, 0, none⟩))]) (by kernel_rfl) ?_
  refine OpsT.done ?_
  refine Qn.then ?_
  obtain ⟨r1, h1, h0⟩ := bindS h0
  refine CodT.meet (fun a w => ∃ (x3 : Bool), x3 = r1 ∧ Fr 45 [(4, .bool x3)] a ∧ Inv w0 Z w A) ?_ ?_
  ·
    refine CodT.regionL [0, 1, 2, 3, 4, 5, 6, 7, 8, 9, 10, 11, 12, 13, 14, 15, 16, 17, 18, 19, 20, 21, 22, 23, 24, 25, 26, 27, 28, 29, 30, 31, 32, 33, 34, 35, 36, 37, 38, 39, 40] (by kernel_rfl) ?_
    refine OpsT.pures (r := [1, 2, 3, 4, 5, 6, 7, 8, 9, 10, 11, 12, 13, 14, 15, 16, 17, 18, 19, 20, 21, 22, 23, 24, 25, 26, 27, 28, 29, 30, 31, 32, 33, 34, 35, 36, 37, 38, 39, 40]) [0] [2, 3, 5] (S' := [(2, .pointer (some ⟨b1, 0, none⟩)), (3, .pointer (some ⟨b2, 0, none⟩)), (5, .pointer (some ⟨b1, 0, none⟩))]) (by kernel_rfl) ?_
    refine OpsT.cons (Does.yi (Yl.load (d := 6) (T := 3) (v := .int .i64 a0_ID) (by kernel_rfl) (ldB ty3 (l := (([.int .i64 a0_ID, .string a0_Name, .string a0_Data, .bool a0_Sealed, .int .i64 a0_Until, .slice A_a0_Holds a0_Holds.length c_a0_Holds] : List Value))) (o := 0) (v := .int .i64 a0_ID) (pick2 _ _ _) (by kernel_rfl))) hI ?_)
    refine OpsT.pures (r := [3, 4, 5, 6, 7, 8, 9, 10, 11, 12, 13, 14, 15, 16, 17, 18, 19, 20, 21, 22, 23, 24, 25, 26, 27, 28, 29, 30, 31, 32, 33, 34, 35, 36, 37, 38, 39, 40]) [2] [2, 3, 6, 7] (S' := [(2, .pointer (some ⟨b1, 0, none⟩)), (3, .pointer (some ⟨b2, 0, none⟩)), (6, .int .i64 a0_ID), (7, .pointer (some ⟨b2, 0, none⟩))]) (by kernel_rfl) ?_
    refine OpsT.cons (Does.yi (Yl.load (d := 8) (T := 3) (v := .int .i64 a1_ID) (by kernel_rfl) (ldB ty3 (l := (([.int .i64 a1_ID, .string a1_Name, .string a1_Data, .bool a1_Sealed, .int .i64 a1_Until, .slice A_a1_Holds a1_Holds.length c_a1_Holds] : List Value))) (o := 0) (v := .int .i64 a1_ID) (ent_refl _) (by kernel_rfl))) hI ?_)
    refine OpsT.pures (r := [6, 7, 8, 9, 10, 11, 12, 13, 14, 15, 16, 17, 18, 19, 20, 21, 22, 23, 24, 25, 26, 27, 28, 29, 30, 31, 32, 33, 34, 35, 36, 37, 38, 39, 40]) [4, 5] [2, 3, 10] (S' := [(2, .pointer (some ⟨b1, 0, none⟩)), (3, .pointer (some ⟨b2, 0, none⟩)), (10, .bool (a0_ID == a1_ID))]) (by kernel_rfl) ?_
    by_cases hb4 : (a0_ID == a1_ID) = true
    · rw [if_pos hb4] at h1
      refine OpsT.keep [2, 3, 10] (S' := [(2, .pointer (some ⟨b1, 0, none⟩)), (3, .pointer (some ⟨b2, 0, none⟩)), (10, .bool true)]) (by (try simp only [hb4]); kernel_rfl) ?_
      refine OpsT.pures (r := [7, 8, 9, 10, 11, 12, 13, 14, 15, 16, 17, 18, 19, 20, 21, 22, 23, 24, 25, 26, 27, 28, 29, 30, 31, 32, 33, 34, 35, 36, 37, 38, 39, 40]) [6] [2, 3, 10, 11] (S' := [(2, .pointer (some ⟨b1, 0, none⟩)), (3, .pointer (some ⟨b2, 0, none⟩)), (10, .bool true), (11, .pointer (some ⟨b1, 1, none⟩))]) (by kernel_rfl) ?_
      refine OpsT.cons (Does.yi (Yl.load (d := 12) (T := 9) (v := .string a0_Name) (by kernel_rfl) (ldB ty9 (l := (([.int .i64 a0_ID, .string a0_Name, .string a0_Data, .bool a0_Sealed, .int .i64 a0_Until, .slice A_a0_Holds a0_Holds.length c_a0_Holds] : List Value))) (o := 1) (v := .string a0_Name) (pick2 _ _ _) (by kernel_rfl))) hI ?_)
      refine OpsT.pures (r := [9, 10, 11, 12, 13, 14, 15, 16, 17, 18, 19, 20, 21, 22, 23, 24, 25, 26, 27, 28, 29, 30, 31, 32, 33, 34, 35, 36, 37, 38, 39, 40]) [8] [2, 3, 10, 12, 13] (S' := [(2, .pointer (some ⟨b1, 0, none⟩)), (3, .pointer (some ⟨b2, 0, none⟩)), (10, .bool true), (12, .string a0_Name), (13, .pointer (some ⟨b2, 1, none⟩))]) (by kernel_rfl) ?_
      refine OpsT.cons (Does.yi (Yl.load (d := 14) (T := 9) (v := .string a1_Name) (by kernel_rfl) (ldB ty9 (l := (([.int .i64 a1_ID, .string a1_Name, .string a1_Data, .bool a1_Sealed, .int .i64 a1_Until, .slice A_a1_Holds a1_Holds.length c_a1_Holds] : List Value))) (o := 1) (v := .string a1_Name) (ent_refl _) (by kernel_rfl))) hI ?_)
      refine OpsT.pures (r := [13, 14, 15, 16, 17, 18, 19, 20, 21, 22, 23, 24, 25, 26, 27, 28, 29, 30, 31, 32, 33, 34, 35, 36, 37, 38, 39, 40]) [10, 11, 12] [2, 3, 17] (S' := [(2, .pointer (some ⟨b1, 0, none⟩)), (3, .pointer (some ⟨b2, 0, none⟩)), (17, .bool (seq a0_Name a1_Name))]) (by kernel_rfl) ?_
      by_cases hb5 : (seq a0_Name a1_Name) = true
      · rw [if_pos hb5] at h1
        refine OpsT.keep [2, 3, 17] (S' := [(2, .pointer (some ⟨b1, 0, none⟩)), (3, .pointer (some ⟨b2, 0, none⟩)), (17, .bool true)]) (by (try simp only [hb5]); kernel_rfl) ?_
        refine OpsT.pures (r := [14, 15, 16, 17, 18, 19, 20, 21, 22, 23, 24, 25, 26, 27, 28, 29, 30, 31, 32, 33, 34, 35, 36, 37, 38, 39, 40]) [13] [2, 3, 17, 18] (S' := [(2, .pointer (some ⟨b1, 0, none⟩)), (3, .pointer (some ⟨b2, 0, none⟩)), (17, .bool true), (18, .pointer (some ⟨b1, 2, none⟩))]) (by kernel_rfl) ?_
        refine OpsT.cons (Does.yi (Yl.load (d := 19) (T := 9) (v := .string a0_Data) (by kernel_rfl) (ldB ty9 (l := (([.int .i64 a0_ID, .string a0_Name, .string a0_Data, .bool a0_Sealed, .int .i64 a0_Until, .slice A_a0_Holds a0_Holds.length c_a0_Holds] : List Value))) (o := 2) (v := .string a0_Data) (pick2 _ _ _) (by kernel_rfl))) hI ?_)
        refine OpsT.pures (r := [16, 17, 18, 19, 20, 21, 22, 23, 24, 25, 26, 27, 28, 29, 30, 31, 32, 33, 34, 35, 36, 37, 38, 39, 40]) [15] [2, 3, 17, 19, 20] (S' := [(2, .pointer (some ⟨b1, 0, none⟩)), (3, .pointer (some ⟨b2, 0, none⟩)), (17, .bool true), (19, .string a0_Data), (20, .pointer (some ⟨b2, 2, none⟩))]) (by kernel_rfl) ?_
        refine OpsT.cons (Does.yi (Yl.load (d := 21) (T := 9) (v := .string a1_Data) (by kernel_rfl) (ldB ty9 (l := (([.int .i64 a1_ID, .string a1_Name, .string a1_Data, .bool a1_Sealed, .int .i64 a1_Until, .slice A_a1_Holds a1_Holds.length c_a1_Holds] : List Value))) (o := 2) (v := .string a1_Data) (ent_refl _) (by kernel_rfl))) hI ?_)
        refine OpsT.pures (r := [20, 21, 22, 23, 24, 25, 26, 27, 28, 29, 30, 31, 32, 33, 34, 35, 36, 37, 38, 39, 40]) [17, 18, 19] [2, 3, 24] (S' := [(2, .pointer (some ⟨b1, 0, none⟩)), (3, .pointer (some ⟨b2, 0, none⟩)), (24, .bool (seq a0_Data a1_Data))]) (by kernel_rfl) ?_
        by_cases hb6 : (seq a0_Data a1_Data) = true
        · rw [if_pos hb6] at h1
          refine OpsT.keep [2, 3, 24] (S' := [(2, .pointer (some ⟨b1, 0, none⟩)), (3, .pointer (some ⟨b2, 0, none⟩)), (24, .bool true)]) (by (try simp only [hb6]); kernel_rfl) ?_
          refine OpsT.pures (r := [21, 22, 23, 24, 25, 26, 27, 28, 29, 30, 31, 32, 33, 34, 35, 36, 37, 38, 39, 40]) [20] [2, 3, 24, 25] (S' := [(2, .pointer (some ⟨b1, 0, none⟩)), (3, .pointer (some ⟨b2, 0, none⟩)), (24, .bool true), (25, .pointer (some ⟨b1, 3, none⟩))]) (by kernel_rfl) ?_
          refine OpsT.cons (Does.yi (Yl.load (d := 26) (T := 4) (v := .bool a0_Sealed) (by kernel_rfl) (ldB ty4 (l := (([.int .i64 a0_ID, .string a0_Name, .string a0_Data, .bool a0_Sealed, .int .i64 a0_Until, .slice A_a0_Holds a0_Holds.length c_a0_Holds] : List Value))) (o := 3) (v := .bool a0_Sealed) (pick2 _ _ _) (by kernel_rfl))) hI ?_)
          refine OpsT.pures (r := [23, 24, 25, 26, 27, 28, 29, 30, 31, 32, 33, 34, 35, 36, 37, 38, 39, 40]) [22] [2, 3, 24, 26, 27] (S' := [(2, .pointer (some ⟨b1, 0, none⟩)), (3, .pointer (some ⟨b2, 0, none⟩)), (24, .bool true), (26, .bool a0_Sealed), (27, .pointer (some ⟨b2, 3, none⟩))]) (by kernel_rfl) ?_
          refine OpsT.cons (Does.yi (Yl.load (d := 28) (T := 4) (v := .bool a1_Sealed) (by kernel_rfl) (ldB ty4 (l := (([.int .i64 a1_ID, .string a1_Name, .string a1_Data, .bool a1_Sealed, .int .i64 a1_Until, .slice A_a1_Holds a1_Holds.length c_a1_Holds] : List Value))) (o := 3) (v := .bool a1_Sealed) (ent_refl _) (by kernel_rfl))) hI ?_)
          refine OpsT.pures (r := [27, 28, 29, 30, 31, 32, 33, 34, 35, 36, 37, 38, 39, 40]) [24, 25, 26] [2, 3, 31] (S' := [(2, .pointer (some ⟨b1, 0, none⟩)), (3, .pointer (some ⟨b2, 0, none⟩)), (31, .bool (a0_Sealed == a1_Sealed))]) (by kernel_rfl) ?_
          by_cases hb7 : (a0_Sealed == a1_Sealed) = true
          · rw [if_pos hb7] at h1
            refine OpsT.keep [2, 3, 31] (S' := [(2, .pointer (some ⟨b1, 0, none⟩)), (3, .pointer (some ⟨b2, 0, none⟩)), (31, .bool true)]) (by (try simp only [hb7]); kernel_rfl) ?_
            refine OpsT.pures (r := [28, 29, 30, 31, 32, 33, 34, 35, 36, 37, 38, 39, 40]) [27] [2, 3, 31, 32] (S' := [(2, .pointer (some ⟨b1, 0, none⟩)), (3, .pointer (some ⟨b2, 0, none⟩)), (31, .bool true), (32, .pointer (some ⟨b1, 4, none⟩))]) (by kernel_rfl) ?_
            refine OpsT.cons (Does.yi (Yl.load (d := 33) (T := 3) (v := .int .i64 a0_Until) (by kernel_rfl) (ldB ty3 (l := (([.int .i64 a0_ID, .string a0_Name, .string a0_Data, .bool a0_Sealed, .int .i64 a0_Until, .slice A_a0_Holds a0_Holds.length c_a0_Holds] : List Value))) (o := 4) (v := .int .i64 a0_Until) (pick2 _ _ _) (by kernel_rfl))) hI ?_)
            refine OpsT.pures (r := [30, 31, 32, 33, 34, 35, 36, 37, 38, 39, 40]) [29] [2, 3, 31, 33, 34] (S' := [(2, .pointer (some ⟨b1, 0, none⟩)), (3, .pointer (some ⟨b2, 0, none⟩)), (31, .bool true), (33, .int .i64 a0_Until), (34, .pointer (some ⟨b2, 4, none⟩))]) (by kernel_rfl) ?_
            refine OpsT.cons (Does.yi (Yl.load (d := 35) (T := 3) (v := .int .i64 a1_Until) (by kernel_rfl) (ldB ty3 (l := (([.int .i64 a1_ID, .string a1_Name, .string a1_Data, .bool a1_Sealed, .int .i64 a1_Until, .slice A_a1_Holds a1_Holds.length c_a1_Holds] : List Value))) (o := 4) (v := .int .i64 a1_Until) (ent_refl _) (by kernel_rfl))) hI ?_)
            refine OpsT.pures (r := [34, 35, 36, 37, 38, 39, 40]) [31, 32, 33] [2, 3, 38] (S' := [(2, .pointer (some ⟨b1, 0, none⟩)), (3, .pointer (some ⟨b2, 0, none⟩)), (38, .bool (a0_Until == a1_Until))]) (by kernel_rfl) ?_
            by_cases hb8 : (a0_Until == a1_Until) = true
            · rw [if_pos hb8] at h1
              refine OpsT.keep [2, 3, 38] (S' := [(2, .pointer (some ⟨b1, 0, none⟩)), (3, .pointer (some ⟨b2, 0, none⟩)), (38, .bool true)]) (by (try simp only [hb8]); kernel_rfl) ?_
              refine OpsT.pures (r := [35, 36, 37, 38, 39, 40]) [34] [3, 38, 39] (S' := [(3, .pointer (some ⟨b2, 0, none⟩)), (38, .bool true), (39, .pointer (some ⟨b1, 5, none⟩))]) (by kernel_rfl) ?_
              refine OpsT.cons (Does.yi (Yl.load (d := 40) (T := 22) (v := .slice A_a0_Holds a0_Holds.length c_a0_Holds) (by kernel_rfl) (ldB ty22 (l := (([.int .i64 a0_ID, .string a0_Name, .string a0_Data, .bool a0_Sealed, .int .i64 a0_Until, .slice A_a0_Holds a0_Holds.length c_a0_Holds] : List Value))) (o := 5) (v := .slice A_a0_Holds a0_Holds.length c_a0_Holds) (pick2 _ _ _) (by kernel_rfl))) hI ?_)
              refine OpsT.pures (r := [37, 38, 39, 40]) [36] [38, 40, 41] (S' := [(38, .bool true), (40, .slice A_a0_Holds a0_Holds.length c_a0_Holds), (41, .pointer (some ⟨b2, 5, none⟩))]) (by kernel_rfl) ?_
              refine OpsT.cons (Does.yi (Yl.load (d := 42) (T := 22) (v := .slice A_a1_Holds a1_Holds.length c_a1_Holds) (by kernel_rfl) (ldB ty22 (l := (([.int .i64 a1_ID, .string a1_Name, .string a1_Data, .bool a1_Sealed, .int .i64 a1_Until, .slice A_a1_Holds a1_Holds.length c_a1_Holds] : List Value))) (o := 5) (v := .slice A_a1_Holds a1_Holds.length c_a1_Holds) (ent_refl _) (by kernel_rfl))) hI ?_)
              obtain ⟨y10, hc9, h1⟩ := bindS h1
              try dsimp only at h1
              refine OpsT.cons (Does.call (d := some 43) (n := 32) (vs := [.slice A_a0_Holds a0_Holds.length c_a0_Holds, .slice A_a1_Holds a1_Holds.length c_a1_Holds]) (by kernel_rfl) en32 (c32 w0 w _ _ hI hT A_a0_Holds c_a0_Holds a0_Holds hr_a0_Holds A_a1_Holds c_a1_Holds a1_Holds hr_a1_Holds _ hc9) ?_)
              rintro e w ⟨rfl, hI⟩
              refine ⟨_, rfl, ?_⟩
              refine OpsT.pures (r := []) [39, 40] [4] (S' := [(4, .bool y10)]) (by kernel_rfl) ?_
              refine OpsT.done ?_
              have hI := hI.drop
              have hI := hI.drop
              have e := someS h1
              subst e
              exact Qn.thenJ fun a ha => ⟨y10, rfl, ha.keep [4] (by kernel_rfl), hI⟩
            · rw [if_neg hb8] at h1
              have hb8 : (a0_Until == a1_Until) = false := by simpa using hb8
              refine OpsT.keep [2, 3, 38] (S' := [(2, .pointer (some ⟨b1, 0, none⟩)), (3, .pointer (some ⟨b2, 0, none⟩)), (38, .bool false)]) (by (try simp only [hb8]); kernel_rfl) ?_
              refine OpsT.pures (r := []) [34, 35, 36, 37, 38, 39, 40] [4] (S' := [(4, .bool false)]) (by kernel_rfl) ?_
              refine OpsT.done ?_
              have hI := hI.drop
              have hI := hI.drop
              have e := someS h1
              subst e
              exact Qn.thenJ fun a ha => ⟨false, rfl, ha.keep [4] (by kernel_rfl), hI⟩
          · rw [if_neg hb7] at h1
            have hb7 : (a0_Sealed == a1_Sealed) = false := by simpa using hb7
            refine OpsT.keep [2, 3, 31] (S' := [(2, .pointer (some ⟨b1, 0, none⟩)), (3, .pointer (some ⟨b2, 0, none⟩)), (31, .bool false)]) (by (try simp only [hb7]); kernel_rfl) ?_
            refine OpsT.pures (r := []) [27, 28, 29, 30, 31, 32, 33, 34, 35, 36, 37, 38, 39, 40] [4] (S' := [(4, .bool false)]) (by kernel_rfl) ?_
            refine OpsT.done ?_
            have hI := hI.drop
            have hI := hI.drop
            have e := someS h1
            subst e
            exact Qn.thenJ fun a ha => ⟨false, rfl, ha.keep [4] (by kernel_rfl), hI⟩
        · rw [if_neg hb6] at h1
          have hb6 : (seq a0_Data a1_Data) = false := by simpa using hb6
          refine OpsT.keep [2, 3, 24] (S' := [(2, .pointer (some ⟨b1, 0, none⟩)), (3, .pointer (some ⟨b2, 0, none⟩)), (24, .bool false)]) (by (try simp only [hb6]); kernel_rfl) ?_
          refine OpsT.pures (r := []) [20, 21, 22, 23, 24, 25, 26, 27, 28, 29, 30, 31, 32, 33, 34, 35, 36, 37, 38, 39, 40] [4] (S' := [(4, .bool false)]) (by kernel_rfl) ?_
          refine OpsT.done ?_
          have hI := hI.drop
          have hI := hI.drop
          have e := someS h1
          subst e
          exact Qn.thenJ fun a ha => ⟨false, rfl, ha.keep [4] (by kernel_rfl), hI⟩
      · rw [if_neg hb5] at h1
        have hb5 : (seq a0_Name a1_Name) = false := by simpa using hb5
        refine OpsT.keep [2, 3, 17] (S' := [(2, .pointer (some ⟨b1, 0, none⟩)), (3, .pointer (some ⟨b2, 0, none⟩)), (17, .bool false)]) (by (try simp only [hb5]); kernel_rfl) ?_
        refine OpsT.pures (r := []) [13, 14, 15, 16, 17, 18, 19, 20, 21, 22, 23, 24, 25, 26, 27, 28, 29, 30, 31, 32, 33, 34, 35, 36, 37, 38, 39, 40] [4] (S' := [(4, .bool false)]) (by kernel_rfl) ?_
        refine OpsT.done ?_
        have hI := hI.drop
        have hI := hI.drop
        have e := someS h1
        subst e
        exact Qn.thenJ fun a ha => ⟨false, rfl, ha.keep [4] (by kernel_rfl), hI⟩
    · rw [if_neg hb4] at h1
      have hb4 : (a0_ID == a1_ID) = false := by simpa using hb4
      refine OpsT.keep [2, 3, 10] (S' := [(2, .pointer (some ⟨b1, 0, none⟩)), (3, .pointer (some ⟨b2, 0, none⟩)), (10, .bool false)]) (by (try simp only [hb4]); kernel_rfl) ?_
      refine OpsT.pures (r := []) [6, 7, 8, 9, 10, 11, 12, 13, 14, 15, 16, 17, 18, 19, 20, 21, 22, 23, 24, 25, 26, 27, 28, 29, 30, 31, 32, 33, 34, 35, 36, 37, 38, 39, 40] [4] (S' := [(4, .bool false)]) (by kernel_rfl) ?_
      refine OpsT.done ?_
      have hI := hI.drop
      have hI := hI.drop
      have e := someS h1
      subst e
      exact Qn.thenJ fun a ha => ⟨false, rfl, ha.keep [4] (by kernel_rfl), hI⟩
  ·
    rintro a w ⟨x3, rfl, ha, hI⟩
    try dsimp only at h0
    refine CodT.of ?_ ha
    refine CodT.ret ?_
    have e := someS h0
    subst e
    refine Qn.keep [4] (S' := [(4, .bool x3)]) (by kernel_rfl) ?_
    exact post_ret (v := .bool x3) (fun a ha => RunRes.run (vs := [.bool x3]) (.tmp (t := 4) (by kernel_rfl) .nil) ha (by kernel_rfl)) ⟨rfl, hI⟩
end Go.Cen
