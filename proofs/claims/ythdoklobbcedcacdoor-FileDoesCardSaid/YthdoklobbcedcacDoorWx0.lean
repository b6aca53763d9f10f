/- That the machine computes these: walks, printed by a program of ours. -/
import Derived.Test.YthdoklobbcedcacDoorPx
import Derived.Test.YthdoklobbcedcacDoorProg
import Derived.Laws.Externs
set_option linter.unusedVariables false
set_option linter.unusedSimpArgs false
namespace Go.Cen
set_option maxRecDepth 100000
set_option maxHeartbeats 4000000
noncomputable abbrev prog := Go.Proofs.Tryd.prog
def Tabs (Z : Hp) : Prop := RdS Z (cI .u8) 1 (some ⟨0, 0, none⟩) 256 tab0 ∧ RdS Z c_Utf8AcceptRange 2 (some ⟨1, 0, none⟩) 16 tab1 ∧ True
theorem Tabs.mono {Z Z' : Hp} (h : Tabs Z) (le : Z.le Z') : Tabs Z' := ⟨h.1.mono le, h.2.1.mono le, trivial⟩
theorem ty3 : Ty prog 3 false 1 8 (iv 0) := ⟨by kernel_rfl, by kernel_rfl⟩
theorem ty4 : Ty prog 4 false 1 1 (.bool false) := ⟨by kernel_rfl, by kernel_rfl⟩
theorem ty5 : Ty prog 5 false 1 1 (.int .u8 0) := ⟨by kernel_rfl, by kernel_rfl⟩
theorem ty9 : Ty prog 9 false 1 16 (.string ⟨#[]⟩) := ⟨by kernel_rfl, by kernel_rfl⟩
theorem ty21 : Ty prog 21 false 1 4 (.int .i32 0) := ⟨by kernel_rfl, by kernel_rfl⟩
theorem ty22 : Ty prog 22 false 1 24 (.slice none 0 0) := ⟨by kernel_rfl, by kernel_rfl⟩
theorem ty25 : Ty prog 25 false 1 24 (.slice none 0 0) := ⟨by kernel_rfl, by kernel_rfl⟩
theorem ty27 : Ty prog 27 true 6 80 (.agg (([iv 0, .string ⟨#[]⟩, .string ⟨#[]⟩, .bool false, iv 0, .slice none 0 0] : LV)).toArray) := ⟨by kernel_rfl, by kernel_rfl⟩
theorem ty32 : Ty prog 32 false 1 24 (.slice none 0 0) := ⟨by kernel_rfl, by kernel_rfl⟩
theorem ty46 : Ty prog 46 false 1 8 (iv 0) := ⟨by kernel_rfl, by kernel_rfl⟩
theorem ty48 : Ty prog 48 true 6 64 (.agg (([iv 0, .string ⟨#[]⟩, .string ⟨#[]⟩, iv 0, iv 0, iv 0] : LV)).toArray) := ⟨by kernel_rfl, by kernel_rfl⟩
theorem ty51 : Ty prog 51 true 32 32 (.agg (List.replicate 32 (.int .u8 0 : Value)).toArray) := ⟨by kernel_rfl, by kernel_rfl⟩
theorem ty53 : Ty prog 53 true 37 80 (.agg (([iv 0, iv 0, .string ⟨#[]⟩, iv 0, iv 0] : LV) ++ (List.replicate 32 (.int .u8 0 : Value))).toArray) := ⟨by kernel_rfl, by kernel_rfl⟩
theorem ty89 : Ty prog 89 false 1 4 (.int .u32 0) := ⟨by kernel_rfl, by kernel_rfl⟩
theorem ty90 : Ty prog 90 true 8 32 (.agg (List.replicate 8 (.int .u32 0 : Value)).toArray) := ⟨by kernel_rfl, by kernel_rfl⟩
theorem ty92 : Ty prog 92 true 64 256 (.agg (List.replicate 64 (.int .u32 0 : Value)).toArray) := ⟨by kernel_rfl, by kernel_rfl⟩
theorem ty118 : Ty prog 118 true 2 2 (.agg ([.int .u8 0, .int .u8 0] : LV).toArray) := ⟨by kernel_rfl, by kernel_rfl⟩
theorem en11 : ∀ (args : Array Value) (w : World), (callFunc 11 args).run prog w = .ok (.enter 11 args) w := fun _ _ => by kernel_rfl
theorem en12 : ∀ (args : Array Value) (w : World), (callFunc 12 args).run prog w = .ok (.enter 12 args) w := fun _ _ => by kernel_rfl
theorem en13 : ∀ (args : Array Value) (w : World), (callFunc 13 args).run prog w = .ok (.enter 13 args) w := fun _ _ => by kernel_rfl
theorem en20 : ∀ (args : Array Value) (w : World), (callFunc 20 args).run prog w = .ok (.enter 20 args) w := fun _ _ => by kernel_rfl
theorem en21 : ∀ (args : Array Value) (w : World), (callFunc 21 args).run prog w = .ok (.enter 21 args) w := fun _ _ => by kernel_rfl
theorem en22 : ∀ (args : Array Value) (w : World), (callFunc 22 args).run prog w = .ok (.enter 22 args) w := fun _ _ => by kernel_rfl
theorem en23 : ∀ (args : Array Value) (w : World), (callFunc 23 args).run prog w = .ok (.enter 23 args) w := fun _ _ => by kernel_rfl
theorem en24 : ∀ (args : Array Value) (w : World), (callFunc 24 args).run prog w = .ok (.enter 24 args) w := fun _ _ => by kernel_rfl
theorem en25 : ∀ (args : Array Value) (w : World), (callFunc 25 args).run prog w = .ok (.enter 25 args) w := fun _ _ => by kernel_rfl
theorem en26 : ∀ (args : Array Value) (w : World), (callFunc 26 args).run prog w = .ok (.enter 26 args) w := fun _ _ => by kernel_rfl
theorem en27 : ∀ (args : Array Value) (w : World), (callFunc 27 args).run prog w = .ok (.enter 27 args) w := fun _ _ => by kernel_rfl
theorem en28 : ∀ (args : Array Value) (w : World), (callFunc 28 args).run prog w = .ok (.enter 28 args) w := fun _ _ => by kernel_rfl
theorem en29 : ∀ (args : Array Value) (w : World), (callFunc 29 args).run prog w = .ok (.enter 29 args) w := fun _ _ => by kernel_rfl
theorem en30 : ∀ (args : Array Value) (w : World), (callFunc 30 args).run prog w = .ok (.enter 30 args) w := fun _ _ => by kernel_rfl
theorem en31 : ∀ (args : Array Value) (w : World), (callFunc 31 args).run prog w = .ok (.enter 31 args) w := fun _ _ => by kernel_rfl
theorem en32 : ∀ (args : Array Value) (w : World), (callFunc 32 args).run prog w = .ok (.enter 32 args) w := fun _ _ => by kernel_rfl
theorem en33 : ∀ (args : Array Value) (w : World), (callFunc 33 args).run prog w = .ok (.enter 33 args) w := fun _ _ => by kernel_rfl
theorem en34 : ∀ (args : Array Value) (w : World), (callFunc 34 args).run prog w = .ok (.enter 34 args) w := fun _ _ => by kernel_rfl
theorem en35 : ∀ (args : Array Value) (w : World), (callFunc 35 args).run prog w = .ok (.enter 35 args) w := fun _ _ => by kernel_rfl
theorem en36 : ∀ (args : Array Value) (w : World), (callFunc 36 args).run prog w = .ok (.enter 36 args) w := fun _ _ => by kernel_rfl
theorem en37 : ∀ (args : Array Value) (w : World), (callFunc 37 args).run prog w = .ok (.enter 37 args) w := fun _ _ => by kernel_rfl
theorem en38 : ∀ (args : Array Value) (w : World), (callFunc 38 args).run prog w = .ok (.enter 38 args) w := fun _ _ => by kernel_rfl
theorem en39 : ∀ (args : Array Value) (w : World), (callFunc 39 args).run prog w = .ok (.enter 39 args) w := fun _ _ => by kernel_rfl
theorem en40 : ∀ (args : Array Value) (w : World), (callFunc 40 args).run prog w = .ok (.enter 40 args) w := fun _ _ => by kernel_rfl
theorem en41 : ∀ (args : Array Value) (w : World), (callFunc 41 args).run prog w = .ok (.enter 41 args) w := fun _ _ => by kernel_rfl
theorem en42 : ∀ (args : Array Value) (w : World), (callFunc 42 args).run prog w = .ok (.enter 42 args) w := fun _ _ => by kernel_rfl
theorem en43 : ∀ (args : Array Value) (w : World), (callFunc 43 args).run prog w = .ok (.enter 43 args) w := fun _ _ => by kernel_rfl
theorem en44 : ∀ (args : Array Value) (w : World), (callFunc 44 args).run prog w = .ok (.enter 44 args) w := fun _ _ => by kernel_rfl
theorem en45 : ∀ (args : Array Value) (w : World), (callFunc 45 args).run prog w = .ok (.enter 45 args) w := fun _ _ => by kernel_rfl
theorem en46 : ∀ (args : Array Value) (w : World), (callFunc 46 args).run prog w = .ok (.enter 46 args) w := fun _ _ => by kernel_rfl
theorem en47 : ∀ (args : Array Value) (w : World), (callFunc 47 args).run prog w = .ok (.enter 47 args) w := fun _ _ => by kernel_rfl
theorem en48 : ∀ (args : Array Value) (w : World), (callFunc 48 args).run prog w = .ok (.enter 48 args) w := fun _ _ => by kernel_rfl
theorem en49 : ∀ (args : Array Value) (w : World), (callFunc 49 args).run prog w = .ok (.enter 49 args) w := fun _ _ => by kernel_rfl
theorem en50 : ∀ (args : Array Value) (w : World), (callFunc 50 args).run prog w = .ok (.enter 50 args) w := fun _ _ => by kernel_rfl
theorem en51 : ∀ (args : Array Value) (w : World), (callFunc 51 args).run prog w = .ok (.enter 51 args) w := fun _ _ => by kernel_rfl
theorem en52 : ∀ (args : Array Value) (w : World), (callFunc 52 args).run prog w = .ok (.enter 52 args) w := fun _ _ => by kernel_rfl
theorem en53 : ∀ (args : Array Value) (w : World), (callFunc 53 args).run prog w = .ok (.enter 53 args) w := fun _ _ => by kernel_rfl
theorem en54 : ∀ (args : Array Value) (w : World), (callFunc 54 args).run prog w = .ok (.enter 54 args) w := fun _ _ => by kernel_rfl
theorem en55 : ∀ (args : Array Value) (w : World), (callFunc 55 args).run prog w = .ok (.enter 55 args) w := fun _ _ => by kernel_rfl
theorem en56 : ∀ (args : Array Value) (w : World), (callFunc 56 args).run prog w = .ok (.enter 56 args) w := fun _ _ => by kernel_rfl
theorem en57 : ∀ (args : Array Value) (w : World), (callFunc 57 args).run prog w = .ok (.enter 57 args) w := fun _ _ => by kernel_rfl
theorem en58 : ∀ (args : Array Value) (w : World), (callFunc 58 args).run prog w = .ok (.enter 58 args) w := fun _ _ => by kernel_rfl
theorem en59 : ∀ (args : Array Value) (w : World), (callFunc 59 args).run prog w = .ok (.enter 59 args) w := fun _ _ => by kernel_rfl
theorem en60 : ∀ (args : Array Value) (w : World), (callFunc 60 args).run prog w = .ok (.enter 60 args) w := fun _ _ => by kernel_rfl
theorem en63 : ∀ (args : Array Value) (w : World), (callFunc 63 args).run prog w = .ok (.enter 63 args) w := fun _ _ => by kernel_rfl
theorem en64 : ∀ (args : Array Value) (w : World), (callFunc 64 args).run prog w = .ok (.enter 64 args) w := fun _ _ => by kernel_rfl
theorem en65 : ∀ (args : Array Value) (w : World), (callFunc 65 args).run prog w = .ok (.enter 65 args) w := fun _ _ => by kernel_rfl
theorem en66 : ∀ (args : Array Value) (w : World), (callFunc 66 args).run prog w = .ok (.enter 66 args) w := fun _ _ => by kernel_rfl
theorem en67 : ∀ (args : Array Value) (w : World), (callFunc 67 args).run prog w = .ok (.enter 67 args) w := fun _ _ => by kernel_rfl
theorem en68 : ∀ (args : Array Value) (w : World), (callFunc 68 args).run prog w = .ok (.enter 68 args) w := fun _ _ => by kernel_rfl
theorem en69 : ∀ (args : Array Value) (w : World), (callFunc 69 args).run prog w = .ok (.enter 69 args) w := fun _ _ => by kernel_rfl
theorem en70 : ∀ (args : Array Value) (w : World), (callFunc 70 args).run prog w = .ok (.enter 70 args) w := fun _ _ => by kernel_rfl
theorem en71 : ∀ (args : Array Value) (w : World), (callFunc 71 args).run prog w = .ok (.enter 71 args) w := fun _ _ => by kernel_rfl
theorem en72 : ∀ (args : Array Value) (w : World), (callFunc 72 args).run prog w = .ok (.enter 72 args) w := fun _ _ => by kernel_rfl
theorem en73 : ∀ (args : Array Value) (w : World), (callFunc 73 args).run prog w = .ok (.enter 73 args) w := fun _ _ => by kernel_rfl
theorem en74 : ∀ (args : Array Value) (w : World), (callFunc 74 args).run prog w = .ok (.enter 74 args) w := fun _ _ => by kernel_rfl
theorem en75 : ∀ (args : Array Value) (w : World), (callFunc 75 args).run prog w = .ok (.enter 75 args) w := fun _ _ => by kernel_rfl
theorem en77 : ∀ (args : Array Value) (w : World), (callFunc 77 args).run prog w = .ok (.enter 77 args) w := fun _ _ => by kernel_rfl
theorem en78 : ∀ (args : Array Value) (w : World), (callFunc 78 args).run prog w = .ok (.enter 78 args) w := fun _ _ => by kernel_rfl
theorem en79 : ∀ (args : Array Value) (w : World), (callFunc 79 args).run prog w = .ok (.enter 79 args) w := fun _ _ => by kernel_rfl
theorem en80 : ∀ (args : Array Value) (w : World), (callFunc 80 args).run prog w = .ok (.enter 80 args) w := fun _ _ => by kernel_rfl
theorem en82 : ∀ (args : Array Value) (w : World), (callFunc 82 args).run prog w = .ok (.enter 82 args) w := fun _ _ => by kernel_rfl
theorem en83 : ∀ (args : Array Value) (w : World), (callFunc 83 args).run prog w = .ok (.enter 83 args) w := fun _ _ => by kernel_rfl
theorem en84 : ∀ (args : Array Value) (w : World), (callFunc 84 args).run prog w = .ok (.enter 84 args) w := fun _ _ => by kernel_rfl
theorem en85 : ∀ (args : Array Value) (w : World), (callFunc 85 args).run prog w = .ok (.enter 85 args) w := fun _ _ => by kernel_rfl
theorem en86 : ∀ (args : Array Value) (w : World), (callFunc 86 args).run prog w = .ok (.enter 86 args) w := fun _ _ => by kernel_rfl
theorem en87 : ∀ (args : Array Value) (w : World), (callFunc 87 args).run prog w = .ok (.enter 87 args) w := fun _ _ => by kernel_rfl
theorem en88 : ∀ (args : Array Value) (w : World), (callFunc 88 args).run prog w = .ok (.enter 88 args) w := fun _ _ => by kernel_rfl
theorem en89 : ∀ (args : Array Value) (w : World), (callFunc 89 args).run prog w = .ok (.enter 89 args) w := fun _ _ => by kernel_rfl
theorem en90 : ∀ (args : Array Value) (w : World), (callFunc 90 args).run prog w = .ok (.enter 90 args) w := fun _ _ => by kernel_rfl
theorem ext91 (a b : Int) (w : World) : (callFunc 91 #[.int .u64 a, .int .u64 b, .int .u64 0]).run prog w = .ok (.value (.tuple #[.int .u64 (add64s a b), .int .u64 (add64c a b)])) w := by kernel_rfl

theorem kt46 : KeyT prog 46 (fun x : Int => Value.int .i64 x) := KeyT.int Go.Proofs.Tryd.underlying46
def ren22 : Go.Shelf.Ren := ⟨fun | 17 => 81 | 22 => 38 | 29 => 61 | 30 => 62 | 36 => 76 | n => n, fun | 0 => 0 | 3 => 3 | 4 => 4 | 9 => 9 | 24 => 25 | n => n, fun n => n⟩
theorem lay22 : Go.Proofs.Lays2.n22 prog ren22 := { mixed := by kernel_rfl, f17 := by kernel_rfl, f22 := by kernel_rfl, f29 := by kernel_rfl, f30 := by kernel_rfl, f36 := by kernel_rfl, t0 := Go.Proofs.Tryd.underlying0, a0 := fun _ => by kernel_rfl, z0 := fun _ => by kernel_rfl, v0 := fun _ => by kernel_rfl, t3 := Go.Proofs.Tryd.underlying3, a3 := fun _ => by kernel_rfl, z3 := fun _ => by kernel_rfl, v3 := fun _ => by kernel_rfl, t4 := Go.Proofs.Tryd.underlying4, a4 := fun _ => by kernel_rfl, z4 := fun _ => by kernel_rfl, v4 := fun _ => by kernel_rfl, t9 := Go.Proofs.Tryd.underlying9, a9 := fun _ => by kernel_rfl, z9 := fun _ => by kernel_rfl, v9 := fun _ => by kernel_rfl, t24 := Go.Proofs.Tryd.underlying25, a24 := fun _ => by kernel_rfl, z24 := fun _ => by kernel_rfl, v24 := fun _ => by kernel_rfl, i9 := by kernel_rfl }
def ren24 : Go.Shelf.Ren := ⟨fun | 24 => 41 | n => n, fun | 0 => 0 | 3 => 3 | 4 => 4 | 9 => 9 | 24 => 25 | n => n, fun n => n⟩
theorem lay24 : Go.Proofs.Lays2.n24 prog ren24 := { mixed := by kernel_rfl, f24 := by kernel_rfl, t0 := Go.Proofs.Tryd.underlying0, a0 := fun _ => by kernel_rfl, z0 := fun _ => by kernel_rfl, v0 := fun _ => by kernel_rfl, t3 := Go.Proofs.Tryd.underlying3, a3 := fun _ => by kernel_rfl, z3 := fun _ => by kernel_rfl, v3 := fun _ => by kernel_rfl, t4 := Go.Proofs.Tryd.underlying4, a4 := fun _ => by kernel_rfl, z4 := fun _ => by kernel_rfl, v4 := fun _ => by kernel_rfl, t9 := Go.Proofs.Tryd.underlying9, a9 := fun _ => by kernel_rfl, z9 := fun _ => by kernel_rfl, v9 := fun _ => by kernel_rfl, t24 := Go.Proofs.Tryd.underlying25, a24 := fun _ => by kernel_rfl, z24 := fun _ => by kernel_rfl, v24 := fun _ => by kernel_rfl, i9 := by kernel_rfl }
/-- cenotaph/rule.timely -/
theorem c33 (w0 w : World) (Z : Hp) (A : HP) (hI : Inv w0 Z w A) (hT : Tabs Z) (a0 : Int) (r : Bool) (h0 : rule_timely a0 = some r) :
  Calls prog 33 #[iv a0] w (fun e w' => e = .returned (.bool r) ∧ Inv w0 Z w' A) := by
 have e4 := calls_intro (R := (fun e w' => e = .returned (.bool r) ∧ Inv w0 Z w' A)) (w := w) (args := [iv a0]) (fn := Go.Proofs.Tryd.f33) 9 Go.Proofs.Tryd.func33 (by rfl) Go.Proofs.Tryd.ntmps33 (by kernel_rfl)
 refine e4 ?_
 clear e4
 unfold rule_timely at h0
 refine cQ ?_
 refine cR [0] (by kernel_rfl) ?_
 refine oP (r := []) [0] (S' := [(0, iv a0)]) (by kernel_rfl) ?_
 refine oD ?_
 refine qT ?_
 obtain ⟨r1, h1, h0⟩ := bindS h0
 refine CodT.meet (fun a w => ∃ (x1 : Bool), x1 = r1 ∧ Fr 9 [(2, .bool x1)] a ∧ Inv w0 Z w A) ?_ ?_
 ·
  refine cR [0, 1, 2, 3, 4, 5, 6] (by kernel_rfl) ?_
  refine oP (r := [3, 4, 5, 6]) [0, 1, 2] (S' := [(0, iv a0), (5, .bool (decide (a0 ≥ 0)))]) (by kernel_rfl) ?_
  by_cases hb2 : (decide (a0 ≥ 0)) = true
  ·
   rw [if_pos hb2] at h1
   refine oK [0, 5] (S' := [(0, iv a0), (5, .bool true)]) (by (try simp only [hb2]); kernel_rfl) ?_
   refine oP (r := []) [3, 4, 5, 6] (S' := [(2, .bool (decide (a0 ≤ 1099511627776)))]) (by kernel_rfl) ?_
   refine oD ?_
   have e := someS h1
   subst e
   exact Qn.thenJ fun a ha => ⟨decide (a0 ≤ 1099511627776), rfl, ha.keep [2] (by kernel_rfl), hI⟩
  ·
   rw [if_neg hb2] at h1
   have hb2 : (decide (a0 ≥ 0)) = false := by simpa using hb2
   refine oK [0, 5] (S' := [(0, iv a0), (5, .bool false)]) (by (try simp only [hb2]); kernel_rfl) ?_
   refine oP (r := []) [3, 4, 5, 6] (S' := [(2, .bool false)]) (by kernel_rfl) ?_
   refine oD ?_
   have e := someS h1
   subst e
   exact Qn.thenJ fun a ha => ⟨false, rfl, ha.keep [2] (by kernel_rfl), hI⟩
 ·
  rintro a w ⟨x1, rfl, ha, hI⟩
  try dsimp only at h0
  refine CodT.of ?_ ha
  refine CodT.ret ?_
  have e := someS h0
  subst e
  refine qK [2] (S' := [(2, .bool x1)]) (by kernel_rfl) ?_
  exact post_ret (v := .bool x1) (fun a ha => RunRes.run (vs := [.bool x1]) (.tmp (t := 2) (by kernel_rfl) .nil) ha (by kernel_rfl)) ⟨rfl, hI⟩
/-- cenotaph/rule.Seal -/
theorem c20 (w0 w : World) (Z : Hp) (A : HP) (hI : Inv w0 Z w A) (hT : Tabs Z) (ud : Int) (ue : ByteArray) (ub : ByteArray) (uf : Bool) (ug : Int) (ua : Option Addr) (uh : Nat) (uc : (List ByteArray)) (ui : RdS Z cS 1 ua uh uc) (a1 : Int) (r : (Int × ByteArray × ByteArray × Bool × Int × (List ByteArray) × Int)) (h0 : rule_Seal ud ue ub uf ug uc a1 = some r) :
  Calls prog 20 #[.agg ([iv ud, .string ue, .string ub, .bool uf, iv ug, .slice ua uc.length uh] : LV).toArray, iv a1] w (fun e w' => ∃ (A1 : Option Addr) (c1 : Nat) (Z' : Hp), Z.le Z' ∧ e = .returned (.tuple #[.agg ([iv r.1, .string r.2.1, .string r.2.2.1, .bool r.2.2.2.1, iv r.2.2.2.2.1, .slice A1 r.2.2.2.2.2.1.length c1] : LV).toArray, iv r.2.2.2.2.2.2]) ∧ RdS Z' cS 1 A1 c1 r.2.2.2.2.2.1 ∧ Inv w0 Z' w' A) := by
 have e4 := calls_intro (R := (fun e w' => ∃ (A1 : Option Addr) (c1 : Nat) (Z' : Hp), Z.le Z' ∧ e = .returned (.tuple #[.agg ([iv r.1, .string r.2.1, .string r.2.2.1, .bool r.2.2.2.1, iv r.2.2.2.2.1, .slice A1 r.2.2.2.2.2.1.length c1] : LV).toArray, iv r.2.2.2.2.2.2]) ∧ RdS Z' cS 1 A1 c1 r.2.2.2.2.2.1 ∧ Inv w0 Z' w' A)) (w := w) (args := [.agg ([iv ud, .string ue, .string ub, .bool uf, iv ug, .slice ua uc.length uh] : LV).toArray, iv a1]) (fn := Go.Proofs.Tryd.f20) 19 Go.Proofs.Tryd.func20 (by rfl) Go.Proofs.Tryd.ntmps20 (by kernel_rfl)
 refine e4 ?_
 clear e4
 unfold rule_Seal at h0
 refine cQ ?_
 refine cR [0, 1, 2] (by kernel_rfl) ?_
 refine oC (Does.boxL (d := 2) (T := 27) (v := .agg ([iv ud, .string ue, .string ub, .bool uf, iv ug, .slice ua uc.length uh] : LV).toArray) ([iv ud, .string ue, .string ub, .bool uf, iv ug, .slice ua uc.length uh] : LV) (by kernel_rfl) hI (by kernel_rfl) ?_)
 intro b1 w hI
 refine oC (Does.allocL (d := 4) (T := 27) ((([iv 0, .string (⟨#[]⟩ : ByteArray), .string (⟨#[]⟩ : ByteArray), .bool false, iv 0, .slice none 0 0] : LV))) (by kernel_rfl) ty27 hI (by kernel_rfl) ?_)
 intro b2 w hI
 refine oP (r := []) [2] (S' := [(1, iv a1), (2, pb b1), (4, pb b2)]) (by kernel_rfl) ?_
 refine oD ?_
 refine qT ?_
 refine cQ ?_
 refine CodT.block ?_
 refine cQ ?_
 refine cR [0, 1, 2] (by kernel_rfl) ?_
 refine oP (r := [1, 2]) [0] (S' := [(1, iv a1), (2, pb b1), (4, pb b2), (7, .pointer (some ⟨b1, 3, none⟩))]) (by kernel_rfl) ?_
 refine oC (Does.yi (Yl.load (d := 8) (T := 4) (v := .bool uf) (by kernel_rfl) (ldB ty4 (l := ([iv ud, .string ue, .string ub, .bool uf, iv ug, .slice ua uc.length uh] : LV)) (o := 3) (v := .bool uf) (pick2 _ _ _) (by kernel_rfl))) hI ?_)
 refine oP (r := []) [2] (S' := [(1, iv a1), (2, pb b1), (4, pb b2), (6, .bool uf)]) (by kernel_rfl) ?_
 refine oD ?_
 refine qT ?_
 by_cases hb3 : uf = true
 ·
  rw [if_pos hb3] at h0
  refine CodT.yes' (b := uf) (by kernel_rfl) hb3 ?_
  refine cQ ?_
  refine cR [0, 1, 2] (by kernel_rfl) ?_
  refine oC (Does.yi (Yl.load (d := 9) (T := 27) (v := .agg ([iv ud, .string ue, .string ub, .bool uf, iv ug, .slice ua uc.length uh] : LV).toArray) (by kernel_rfl) (ldBN ty27 (l := ([iv ud, .string ue, .string ub, .bool uf, iv ug, .slice ua uc.length uh] : LV)) (o := 0) (cs := ([iv ud, .string ue, .string ub, .bool uf, iv ug, .slice ua uc.length uh] : LV)) (pick2 _ _ _) (by kernel_rfl) (whole _ _ (by kernel_rfl)))) hI ?_)
  refine oC (dS (T := 27) (b := b2) (o := 0) (v := .agg ([iv ud, .string ue, .string ub, .bool uf, iv ug, .slice ua uc.length uh] : LV).toArray) (l := (([iv 0, .string (⟨#[]⟩ : ByteArray), .string (⟨#[]⟩ : ByteArray), .bool false, iv 0, .slice none 0 0] : LV))) (vs := ([iv ud, .string ue, .string ub, .bool uf, iv ug, .slice ua uc.length uh] : LV)) (L' := ([iv ud, .string ue, .string ub, .bool uf, iv ug, .slice ua uc.length uh] : LV)) (by kernel_rfl) ty27 hI (by kernel_rfl) (by kernel_rfl) (by kernel_rfl) (by kernel_rfl) (by kernel_rfl) ?_)
  intro w hI
  refine oP (r := []) [2] (S' := [(4, pb b2), (5, iv 5)]) (by kernel_rfl) ?_
  refine oD ?_
  refine qT ?_
  refine CodT.ret ?_
  refine Qn.block_ret ?_
  refine Qn.ret_then ?_
  have hL4 := (ldBN ty27 (l := ([iv ud, .string ue, .string ub, .bool uf, iv ug, .slice ua uc.length uh] : LV)) (o := 0) (cs := ([iv ud, .string ue, .string ub, .bool uf, iv ug, .slice ua uc.length uh] : LV)) (ent_refl _) (by kernel_rfl) (whole _ _ (by kernel_rfl))) w hI
  have hI := hI.drop
  have hI := hI.drop
  have e := someS h0
  subst e
  refine qK [4, 5] (S' := [(4, pb b2), (5, iv 5)]) (by kernel_rfl) ?_
  exact post_ret (v := .tuple #[.agg ([iv ud, .string ue, .string ub, .bool uf, iv ug, .slice ua uc.length uh] : LV).toArray, iv 5]) (fun a ha => RunRes.run (vs := [.agg ([iv ud, .string ue, .string ub, .bool uf, iv ug, .slice ua uc.length uh] : LV).toArray, iv 5]) (.cell (t := 4) (T := 27) (ad := ⟨b2, 0, none⟩) (by kernel_rfl) hL4 (.tmp (t := 5) (by kernel_rfl) .nil)) ha (by kernel_rfl)) ⟨ua, uh, Z, Hp.le_refl _, rfl, ui, hI⟩
 ·
  rw [if_neg hb3] at h0
  refine CodT.no' (b := uf) (by kernel_rfl) (by simpa using hb3) ?_
  refine cQ ?_
  refine cR [0, 1, 2, 3] (by kernel_rfl) ?_
  refine oP (r := [1, 2, 3]) [0] (S' := [(1, iv a1), (2, pb b1), (4, pb b2), (11, iv a1)]) (by kernel_rfl) ?_
  obtain ⟨y6, hc5, h0⟩ := bindS h0
  try dsimp only at h0
  refine oC (Does.call (d := some 12) (n := 33) (vs := [iv a1]) (by kernel_rfl) en33 (c33 w0 w _ _ hI hT a1 _ hc5) ?_)
  rintro e w ⟨rfl, hI⟩
  refine ⟨_, rfl, ?_⟩
  refine oP (r := []) [2, 3] (S' := [(1, iv a1), (2, pb b1), (4, pb b2), (10, .bool (!y6))]) (by kernel_rfl) ?_
  refine oD ?_
  refine qT ?_
  by_cases hb7 : (!y6) = true
  ·
   rw [if_pos hb7] at h0
   refine CodT.yes' (b := !y6) (by kernel_rfl) hb7 ?_
   refine cQ ?_
   refine cR [0, 1, 2] (by kernel_rfl) ?_
   refine oC (Does.yi (Yl.load (d := 14) (T := 27) (v := .agg ([iv ud, .string ue, .string ub, .bool uf, iv ug, .slice ua uc.length uh] : LV).toArray) (by kernel_rfl) (ldBN ty27 (l := ([iv ud, .string ue, .string ub, .bool uf, iv ug, .slice ua uc.length uh] : LV)) (o := 0) (cs := ([iv ud, .string ue, .string ub, .bool uf, iv ug, .slice ua uc.length uh] : LV)) (pick2 _ _ _) (by kernel_rfl) (whole _ _ (by kernel_rfl)))) hI ?_)
   refine oC (dS (T := 27) (b := b2) (o := 0) (v := .agg ([iv ud, .string ue, .string ub, .bool uf, iv ug, .slice ua uc.length uh] : LV).toArray) (l := (([iv 0, .string (⟨#[]⟩ : ByteArray), .string (⟨#[]⟩ : ByteArray), .bool false, iv 0, .slice none 0 0] : LV))) (vs := ([iv ud, .string ue, .string ub, .bool uf, iv ug, .slice ua uc.length uh] : LV)) (L' := ([iv ud, .string ue, .string ub, .bool uf, iv ug, .slice ua uc.length uh] : LV)) (by kernel_rfl) ty27 hI (by kernel_rfl) (by kernel_rfl) (by kernel_rfl) (by kernel_rfl) (by kernel_rfl) ?_)
   intro w hI
   refine oP (r := []) [2] (S' := [(4, pb b2), (5, iv 1)]) (by kernel_rfl) ?_
   refine oD ?_
   refine qT ?_
   refine CodT.ret ?_
   refine Qn.block_ret ?_
   refine Qn.ret_then ?_
   have hL8 := (ldBN ty27 (l := ([iv ud, .string ue, .string ub, .bool uf, iv ug, .slice ua uc.length uh] : LV)) (o := 0) (cs := ([iv ud, .string ue, .string ub, .bool uf, iv ug, .slice ua uc.length uh] : LV)) (ent_refl _) (by kernel_rfl) (whole _ _ (by kernel_rfl))) w hI
   have hI := hI.drop
   have hI := hI.drop
   have e := someS h0
   subst e
   refine qK [4, 5] (S' := [(4, pb b2), (5, iv 1)]) (by kernel_rfl) ?_
   exact post_ret (v := .tuple #[.agg ([iv ud, .string ue, .string ub, .bool uf, iv ug, .slice ua uc.length uh] : LV).toArray, iv 1]) (fun a ha => RunRes.run (vs := [.agg ([iv ud, .string ue, .string ub, .bool uf, iv ug, .slice ua uc.length uh] : LV).toArray, iv 1]) (.cell (t := 4) (T := 27) (ad := ⟨b2, 0, none⟩) (by kernel_rfl) hL8 (.tmp (t := 5) (by kernel_rfl) .nil)) ha (by kernel_rfl)) ⟨ua, uh, Z, Hp.le_refl _, rfl, ui, hI⟩
  ·
   rw [if_neg hb7] at h0
   refine CodT.no' (b := !y6) (by kernel_rfl) (by simpa using hb7) ?_
   refine CodT.skip ?_
   refine Qn.block_normal ?_
   refine qT ?_
   refine cQ ?_
   refine cR [0, 1, 2, 3, 4] (by kernel_rfl) ?_
   refine oP (r := [2, 3, 4]) [0, 1] (S' := [(2, pb b1), (4, pb b2), (15, iv a1), (16, .pointer (some ⟨b1, 3, none⟩))]) (by kernel_rfl) ?_
   have hI := hI.mono (pick2 _ _ _)
   refine oC (dS (T := 4) (b := b1) (o := 3) (v := .bool true) (l := ([iv ud, .string ue, .string ub, .bool uf, iv ug, .slice ua uc.length uh] : LV)) (vs := ([.bool true] : LV)) (L' := ([iv ud, .string ue, .string ub, .bool true, iv ug, .slice ua uc.length uh] : LV)) (by kernel_rfl) ty4 hI (by kernel_rfl) (by kernel_rfl) (by kernel_rfl) (by kernel_rfl) (by kernel_rfl) ?_)
   intro w hI
   refine oP (r := [4]) [3] (S' := [(2, pb b1), (4, pb b2), (15, iv a1), (17, .pointer (some ⟨b1, 4, none⟩))]) (by kernel_rfl) ?_
   refine oC (dS (T := 3) (b := b1) (o := 4) (v := iv a1) (l := ([iv ud, .string ue, .string ub, .bool true, iv ug, .slice ua uc.length uh] : LV)) (vs := ([iv a1] : LV)) (L' := ([iv ud, .string ue, .string ub, .bool true, iv a1, .slice ua uc.length uh] : LV)) (by kernel_rfl) ty3 hI (by kernel_rfl) (by kernel_rfl) (by kernel_rfl) (by kernel_rfl) (by kernel_rfl) ?_)
   intro w hI
   refine oD ?_
   refine qT ?_
   refine cQ ?_
   refine cR [0, 1, 2] (by kernel_rfl) ?_
   refine oC (Does.yi (Yl.load (d := 18) (T := 27) (v := .agg ([iv ud, .string ue, .string ub, .bool true, iv a1, .slice ua uc.length uh] : LV).toArray) (by kernel_rfl) (ldBN ty27 (l := ([iv ud, .string ue, .string ub, .bool true, iv a1, .slice ua uc.length uh] : LV)) (o := 0) (cs := ([iv ud, .string ue, .string ub, .bool true, iv a1, .slice ua uc.length uh] : LV)) (ent_refl _) (by kernel_rfl) (whole _ _ (by kernel_rfl)))) hI ?_)
   have hI := hI.mono (pick2 _ _ _)
   refine oC (dS (T := 27) (b := b2) (o := 0) (v := .agg ([iv ud, .string ue, .string ub, .bool true, iv a1, .slice ua uc.length uh] : LV).toArray) (l := (([iv 0, .string (⟨#[]⟩ : ByteArray), .string (⟨#[]⟩ : ByteArray), .bool false, iv 0, .slice none 0 0] : LV))) (vs := ([iv ud, .string ue, .string ub, .bool true, iv a1, .slice ua uc.length uh] : LV)) (L' := ([iv ud, .string ue, .string ub, .bool true, iv a1, .slice ua uc.length uh] : LV)) (by kernel_rfl) ty27 hI (by kernel_rfl) (by kernel_rfl) (by kernel_rfl) (by kernel_rfl) (by kernel_rfl) ?_)
   intro w hI
   refine oP (r := []) [2] (S' := [(4, pb b2), (5, iv 0)]) (by kernel_rfl) ?_
   refine oD ?_
   refine qT ?_
   refine CodT.ret ?_
   have hL9 := (ldBN ty27 (l := ([iv ud, .string ue, .string ub, .bool true, iv a1, .slice ua uc.length uh] : LV)) (o := 0) (cs := ([iv ud, .string ue, .string ub, .bool true, iv a1, .slice ua uc.length uh] : LV)) (ent_refl _) (by kernel_rfl) (whole _ _ (by kernel_rfl))) w hI
   have hI := hI.drop
   have hI := hI.drop
   have e := someS h0
   subst e
   refine qK [4, 5] (S' := [(4, pb b2), (5, iv 0)]) (by kernel_rfl) ?_
   exact post_ret (v := .tuple #[.agg ([iv ud, .string ue, .string ub, .bool true, iv a1, .slice ua uc.length uh] : LV).toArray, iv 0]) (fun a ha => RunRes.run (vs := [.agg ([iv ud, .string ue, .string ub, .bool true, iv a1, .slice ua uc.length uh] : LV).toArray, iv 0]) (.cell (t := 4) (T := 27) (ad := ⟨b2, 0, none⟩) (by kernel_rfl) hL9 (.tmp (t := 5) (by kernel_rfl) .nil)) ha (by kernel_rfl)) ⟨ua, uh, Z, Hp.le_refl _, rfl, ui, hI⟩
/-- cenotaph/name.Count -/
theorem c58 (w0 w : World) (Z : Hp) (A : HP) (hI : Inv w0 Z w A) (hT : Tabs Z) (a0 : ByteArray) (r : Int) (h0 : name_Count a0 = some r) :
  Calls prog 58 #[.string a0] w (fun e w' => e = .returned (iv r) ∧ Inv w0 Z w' A) := by
 have e4 := calls_intro (R := (fun e w' => e = .returned (iv r) ∧ Inv w0 Z w' A)) (w := w) (args := [.string a0]) (fn := Go.Proofs.Tryd.f58) 11 Go.Proofs.Tryd.func58 (by rfl) Go.Proofs.Tryd.ntmps58 (by kernel_rfl)
 refine e4 ?_
 clear e4
 unfold name_Count at h0
 refine cQ ?_
 refine cR [0] (by kernel_rfl) ?_
 refine oP (r := []) [0] (S' := [(0, .string a0)]) (by kernel_rfl) ?_
 refine oD ?_
 refine qT ?_
 refine cQ ?_
 refine cR [0] (by kernel_rfl) ?_
 refine oP (r := []) [0] (S' := [(0, .string a0), (3, iv 0)]) (by kernel_rfl) ?_
 refine oD ?_
 refine qT ?_
 refine cQ ?_
 refine cQ ?_
 refine cR [0, 1] (by kernel_rfl) ?_
 refine oP (r := [1]) [0] (S' := [(3, iv 0), (4, .string a0)]) (by kernel_rfl) ?_
 refine oC (Does.rangeStr (d := 5) (T := 9) (s := a0) (by kernel_rfl) Go.Proofs.Tryd.underlying9 hI ?_)
 intro b1 w hI
 refine oD ?_
 refine qT ?_
 obtain ⟨r1, h1, h0⟩ := bindS h0
 refine CodT.meet1 (fun a w => ∃ (x2 : Int), x2 = r1 ∧ Fr 11 [(3, iv x2)] a ∧ Inv w0 Z w A) ?_ ?_
 ·
  refine CodT.block ?_
  refine (fun a ha => wp_loopN (fun k a w => ∃ (x3 : Int) (x4 : Nat), name_Count.l0 a0 k x3 x4 = some r1 ∧ Fr 11 [(3, iv x3), (5, pb b1)] a ∧ Inv w0 Z w (star (pt b1 (.stringIter a0 x4)) A)) ?_ FU a w ⟨0, 0, h1, ha.keep [3, 5] (by kernel_rfl), hI⟩)
  clear h1 hI
  rintro k a w ⟨x3, x4, h1, ha, hI⟩
  rcases k with _ | k
  ·
   cases h1
  simp only [name_Count.l0] at h1
  refine CodT.of ?_ ha
  refine cQ ?_
  refine cR [0, 1] (by kernel_rfl) ?_
  by_cases hb5 : x4 < a0.size
  ·
   rw [if_pos hb5] at h1
   refine oC (Does.nextStr (d := 6) (b := b1) (pos := x4) (s := a0) (by kernel_rfl) hI hb5 ?_)
   intro w hI
   refine oP (r := []) [1] (S' := [(3, iv x3), (5, pb b1), (7, .bool true)]) (by kernel_rfl) ?_
   refine oD ?_
   refine qT ?_
   refine cQ ?_
   refine CodT.yes (by kernel_rfl) ?_
   refine CodT.skip ?_
   refine qT ?_
   refine CodT.block ?_
   refine cR [0, 1, 2] (by kernel_rfl) ?_
   refine oP (r := []) [0, 1, 2] (S' := [(3, iv (wi64 (x3 + 1))), (5, pb b1)]) (by kernel_rfl) ?_
   refine oD ?_
   refine Qn.block_normal ?_
   exact Qn.thenJ fun a ha => ⟨k, Nat.lt_succ_self k, wi64 (x3 + 1), x4 + runeW a0 x4, h1, ha.keep [3, 5] (by kernel_rfl), hI⟩
  ·
   rw [if_neg hb5] at h1
   refine oC (Does.nextEnd (d := 6) (b := b1) (pos := x4) (s := a0) (by kernel_rfl) hI hb5 ?_)
   refine oP (r := []) [1] (S' := [(3, iv x3), (5, pb b1), (7, .bool false)]) (by kernel_rfl) ?_
   refine oD ?_
   refine qT ?_
   refine cQ ?_
   refine CodT.no (by kernel_rfl) ?_
   refine CodT.exit ?_
   refine Qn.exit_then ?_
   refine Qn.exit_then ?_
   refine Qn.block ?_
   have hI := hI.drop
   have e := someS h1
   subst e
   exact Qn.thenJ fun a ha => ⟨x3, rfl, ha.keep [3] (by kernel_rfl), hI⟩
 ·
  rintro a w ⟨x2, rfl, ha, hI⟩
  try dsimp only at h0
  refine Qn.of ?_ ha
  refine qT ?_
  refine cQ ?_
  refine cR [0, 1] (by kernel_rfl) ?_
  refine oP (r := []) [0, 1] (S' := [(2, iv x2)]) (by kernel_rfl) ?_
  refine oD ?_
  refine qT ?_
  refine CodT.ret ?_
  have e := someS h0
  subst e
  refine qK [2] (S' := [(2, iv x2)]) (by kernel_rfl) ?_
  exact post_ret (v := iv x2) (fun a ha => RunRes.run (vs := [iv x2]) (.tmp (t := 2) (by kernel_rfl) .nil) ha (by kernel_rfl)) ⟨rfl, hI⟩
/-- cenotaph/name.Valid$1 -/
theorem c57 (w0 w : World) (Z : Hp) (A : HP) (hI : Inv w0 Z w A) (hT : Tabs Z) (a0 : Int) (r : Bool) (h0 : name_Valid_1 a0 = some r) :
  Calls prog 57 #[.int .i32 a0] w (fun e w' => e = .returned (.bool r) ∧ Inv w0 Z w' A) := by
 have e4 := calls_intro (R := (fun e w' => e = .returned (.bool r) ∧ Inv w0 Z w' A)) (w := w) (args := [.int .i32 a0]) (fn := Go.Proofs.Tryd.f57) 21 Go.Proofs.Tryd.func57 (by rfl) Go.Proofs.Tryd.ntmps57 (by kernel_rfl)
 refine e4 ?_
 clear e4
 unfold name_Valid_1 at h0
 refine cQ ?_
 refine cR [0] (by kernel_rfl) ?_
 refine oP (r := []) [0] (S' := [(0, .int .i32 a0)]) (by kernel_rfl) ?_
 refine oD ?_
 refine qT ?_
 obtain ⟨r1, h1, h0⟩ := bindS h0
 refine CodT.meet (fun a w => ∃ (x1 : Bool), x1 = r1 ∧ Fr 21 [(2, .bool x1)] a ∧ Inv w0 Z w A) ?_ ?_
 ·
  refine cR [0, 1, 2, 3, 4, 5, 6, 7, 8, 9, 10, 11, 12, 13, 14, 15, 16, 17, 18] (by kernel_rfl) ?_
  refine oP (r := [3, 4, 5, 6, 7, 8, 9, 10, 11, 12, 13, 14, 15, 16, 17, 18]) [0, 1, 2] (S' := [(0, .int .i32 a0), (5, .bool (decide (a0 < 32)))]) (by kernel_rfl) ?_
  by_cases hb2 : (decide (a0 < 32)) = true
  ·
   rw [if_pos hb2] at h1
   refine oK [0, 5] (S' := [(0, .int .i32 a0), (5, .bool true)]) (by (try simp only [hb2]); kernel_rfl) ?_
   refine oP (r := []) [3, 4, 5, 6, 7, 8, 9, 10, 11, 12, 13, 14, 15, 16, 17, 18] (S' := [(2, .bool true)]) (by kernel_rfl) ?_
   refine oD ?_
   have e := someS h1
   subst e
   exact Qn.thenJ fun a ha => ⟨true, rfl, ha.keep [2] (by kernel_rfl), hI⟩
  ·
   rw [if_neg hb2] at h1
   have hb2 : (decide (a0 < 32)) = false := by simpa using hb2
   refine oK [0, 5] (S' := [(0, .int .i32 a0), (5, .bool false)]) (by (try simp only [hb2]); kernel_rfl) ?_
   refine oP (r := [7, 8, 9, 10, 11, 12, 13, 14, 15, 16, 17, 18]) [3, 4, 5, 6] (S' := [(0, .int .i32 a0), (9, .bool (a0 == 47))]) (by kernel_rfl) ?_
   by_cases hb3 : (a0 == 47) = true
   ·
    rw [if_pos hb3] at h1
    refine oK [0, 9] (S' := [(0, .int .i32 a0), (9, .bool true)]) (by (try simp only [hb3]); kernel_rfl) ?_
    refine oP (r := []) [7, 8, 9, 10, 11, 12, 13, 14, 15, 16, 17, 18] (S' := [(2, .bool true)]) (by kernel_rfl) ?_
    refine oD ?_
    have e := someS h1
    subst e
    exact Qn.thenJ fun a ha => ⟨true, rfl, ha.keep [2] (by kernel_rfl), hI⟩
   ·
    rw [if_neg hb3] at h1
    have hb3 : (a0 == 47) = false := by simpa using hb3
    refine oK [0, 9] (S' := [(0, .int .i32 a0), (9, .bool false)]) (by (try simp only [hb3]); kernel_rfl) ?_
    refine oP (r := [10, 11, 12, 13, 14, 15, 16, 17, 18]) [7, 8, 9] (S' := [(0, .int .i32 a0), (9, .bool false), (12, .bool (decide ((127 : Int) ≤ a0)))]) (by kernel_rfl) ?_
    by_cases hb4 : (decide ((127 : Int) ≤ a0)) = true
    ·
     rw [if_pos hb4] at h1
     refine oK [0, 9, 12] (S' := [(0, .int .i32 a0), (9, .bool false), (12, .bool true)]) (by (try simp only [hb4]); kernel_rfl) ?_
     refine oP (r := [15, 16, 17, 18]) [10, 11, 12, 13, 14] (S' := [(0, .int .i32 a0), (17, .bool (decide (a0 ≤ 159)))]) (by kernel_rfl) ?_
     by_cases hb5 : (decide (a0 ≤ 159)) = true
     ·
      rw [if_pos hb5] at h1
      refine oK [0, 17] (S' := [(0, .int .i32 a0), (17, .bool true)]) (by (try simp only [hb5]); kernel_rfl) ?_
      refine oP (r := []) [15, 16, 17, 18] (S' := [(2, .bool true)]) (by kernel_rfl) ?_
      refine oD ?_
      have e := someS h1
      subst e
      exact Qn.thenJ fun a ha => ⟨true, rfl, ha.keep [2] (by kernel_rfl), hI⟩
     ·
      rw [if_neg hb5] at h1
      have hb5 : (decide (a0 ≤ 159)) = false := by simpa using hb5
      refine oK [0, 17] (S' := [(0, .int .i32 a0), (17, .bool false)]) (by (try simp only [hb5]); kernel_rfl) ?_
      refine oP (r := []) [15, 16, 17, 18] (S' := [(2, .bool (a0 == 65533))]) (by kernel_rfl) ?_
      refine oD ?_
      have e := someS h1
      subst e
      exact Qn.thenJ fun a ha => ⟨a0 == 65533, rfl, ha.keep [2] (by kernel_rfl), hI⟩
    ·
     rw [if_neg hb4] at h1
     have hb4 : (decide ((127 : Int) ≤ a0)) = false := by simpa using hb4
     refine oK [0, 9, 12] (S' := [(0, .int .i32 a0), (9, .bool false), (12, .bool false)]) (by (try simp only [hb4]); kernel_rfl) ?_
     refine oP (r := []) [10, 11, 12, 13, 14, 15, 16, 17, 18] (S' := [(2, .bool (a0 == 65533))]) (by kernel_rfl) ?_
     refine oD ?_
     have e := someS h1
     subst e
     exact Qn.thenJ fun a ha => ⟨a0 == 65533, rfl, ha.keep [2] (by kernel_rfl), hI⟩
 ·
  rintro a w ⟨x1, rfl, ha, hI⟩
  try dsimp only at h0
  refine CodT.of ?_ ha
  refine CodT.ret ?_
  have e := someS h0
  subst e
  refine qK [2] (S' := [(2, .bool x1)]) (by kernel_rfl) ?_
  exact post_ret (v := .bool x1) (fun a ha => RunRes.run (vs := [.bool x1]) (.tmp (t := 2) (by kernel_rfl) .nil) ha (by kernel_rfl)) ⟨rfl, hI⟩
/-- strings.indexFunc -/
theorem c74 (w0 w : World) (Z : Hp) (A : HP) (hI : Inv w0 Z w A) (hT : Tabs Z) (a0 : ByteArray) (a2 : Bool) (r : Int) (h0 : strings_indexFunc__name_Valid_1 a0 a2 = some r) :
  Calls prog 74 #[.string a0, .func (.func 57) #[] #[], .bool a2] w (fun e w' => e = .returned (iv r) ∧ Inv w0 Z w' A) := by
 have e4 := calls_intro (R := (fun e w' => e = .returned (iv r) ∧ Inv w0 Z w' A)) (w := w) (args := [.string a0, .func (.func 57) #[] #[], .bool a2]) (fn := Go.Proofs.Tryd.f74) 21 Go.Proofs.Tryd.func74 (by rfl) Go.Proofs.Tryd.ntmps74 (by kernel_rfl)
 refine e4 ?_
 clear e4
 unfold strings_indexFunc__name_Valid_1 at h0
 refine cQ ?_
 refine cR [0] (by kernel_rfl) ?_
 refine oP (r := []) [0] (S' := [(0, .string a0), (1, .func (.func 57) #[] #[]), (2, .bool a2)]) (by kernel_rfl) ?_
 refine oD ?_
 refine qT ?_
 refine cQ ?_
 refine cQ ?_
 refine cR [0, 1] (by kernel_rfl) ?_
 refine oP (r := [1]) [0] (S' := [(1, .func (.func 57) #[] #[]), (2, .bool a2), (9, .string a0)]) (by kernel_rfl) ?_
 refine oC (Does.rangeStr (d := 10) (T := 9) (s := a0) (by kernel_rfl) Go.Proofs.Tryd.underlying9 hI ?_)
 intro b1 w hI
 refine oD ?_
 refine qT ?_
 obtain ⟨r1, h1, h0⟩ := bindS h0
 refine CodT.meet1 (fun a w => .inr () = r1 ∧ Fr 21 [] a ∧ Inv w0 Z w A) ?_ ?_
 ·
  refine CodT.block ?_
  refine (fun a ha => wp_loopN (fun k a w => ∃ (x2 : Nat), strings_indexFunc__name_Valid_1.l0 a0 a2 k x2 = some r1 ∧ Fr 21 [(1, .func (.func 57) #[] #[]), (2, .bool a2), (10, pb b1)] a ∧ Inv w0 Z w (star (pt b1 (.stringIter a0 x2)) A)) ?_ FU a w ⟨0, h1, ha.keep [1, 2, 10] (by kernel_rfl), hI⟩)
  clear h1 hI
  rintro k a w ⟨x2, h1, ha, hI⟩
  rcases k with _ | k
  ·
   cases h1
  simp only [strings_indexFunc__name_Valid_1.l0] at h1
  refine CodT.of ?_ ha
  refine cQ ?_
  refine cR [0, 1] (by kernel_rfl) ?_
  by_cases hb3 : x2 < a0.size
  ·
   rw [if_pos hb3] at h1
   refine oC (Does.nextStr (d := 11) (b := b1) (pos := x2) (s := a0) (by kernel_rfl) hI hb3 ?_)
   intro w hI
   refine oP (r := []) [1] (S' := [(1, .func (.func 57) #[] #[]), (2, .bool a2), (10, pb b1), (11, .tuple #[.bool true, iv (x2 : Int), .int .i32 (runeAt a0 x2)]), (12, .bool true)]) (by kernel_rfl) ?_
   refine oD ?_
   refine qT ?_
   refine cQ ?_
   refine CodT.yes (by kernel_rfl) ?_
   refine CodT.skip ?_
   refine qT ?_
   refine CodT.block ?_
   refine cQ ?_
   refine cR [0, 1, 2, 3] (by kernel_rfl) ?_
   refine oP (r := []) [0, 1, 2, 3] (S' := [(1, .func (.func 57) #[] #[]), (2, .bool a2), (7, iv (x2 : Int)), (8, .int .i32 (runeAt a0 x2)), (10, pb b1)]) (by kernel_rfl) ?_
   refine oD ?_
   refine qT ?_
   refine cQ ?_
   refine cR [0, 1, 2, 3, 4] (by kernel_rfl) ?_
   refine oP (r := [2, 3, 4]) [0, 1] (S' := [(1, .func (.func 57) #[] #[]), (2, .bool a2), (7, iv (x2 : Int)), (10, pb b1), (15, .func (.func 57) #[] #[]), (16, .int .i32 (runeAt a0 x2))]) (by kernel_rfl) ?_
   obtain ⟨y5, hc4, h1⟩ := bindS h1
   try dsimp only at h1
   refine oC (Does.call (d := some 17) (n := 57) (vs := [.int .i32 (runeAt a0 x2)]) (by kernel_rfl) en57 (c57 w0 w _ _ hI hT (runeAt a0 x2) _ hc4) ?_)
   rintro e w ⟨rfl, hI⟩
   refine ⟨_, rfl, ?_⟩
   refine oP (r := []) [3, 4] (S' := [(1, .func (.func 57) #[] #[]), (2, .bool a2), (7, iv (x2 : Int)), (10, pb b1), (19, .bool (y5 == a2))]) (by kernel_rfl) ?_
   refine oD ?_
   refine qT ?_
   by_cases hb6 : (y5 == a2) = true
   ·
    rw [if_pos hb6] at h1
    refine CodT.yes' (b := y5 == a2) (by kernel_rfl) hb6 ?_
    refine cQ ?_
    refine cR [0, 1] (by kernel_rfl) ?_
    refine oP (r := []) [0, 1] (S' := [(6, iv (x2 : Int))]) (by kernel_rfl) ?_
    refine oD ?_
    refine qT ?_
    refine CodT.ret ?_
    refine Qn.block_ret ?_
    refine Qn.ret_then ?_
    refine Qn.block_ret ?_
    refine Qn.ret_then ?_
    refine Qn.ret_then ?_
    have hI := hI.drop
    have e := someS h1
    subst e
    try dsimp only at h0
    have e := someS h0
    subst e
    refine qK [6] (S' := [(6, iv (x2 : Int))]) (by kernel_rfl) ?_
    exact post_ret (v := iv (x2 : Int)) (fun a ha => RunRes.run (vs := [iv (x2 : Int)]) (.tmp (t := 6) (by kernel_rfl) .nil) ha (by kernel_rfl)) ⟨rfl, hI⟩
   ·
    rw [if_neg hb6] at h1
    refine CodT.no' (b := y5 == a2) (by kernel_rfl) (by simpa using hb6) ?_
    refine CodT.skip ?_
    refine Qn.block_normal ?_
    exact Qn.thenJ fun a ha => ⟨k, Nat.lt_succ_self k, x2 + runeW a0 x2, h1, ha.keep [1, 2, 10] (by kernel_rfl), hI⟩
  ·
   rw [if_neg hb3] at h1
   refine oC (Does.nextEnd (d := 11) (b := b1) (pos := x2) (s := a0) (by kernel_rfl) hI hb3 ?_)
   refine oP (r := []) [1] (S' := [(1, .func (.func 57) #[] #[]), (2, .bool a2), (10, pb b1), (11, .tuple #[.bool false]), (12, .bool false)]) (by kernel_rfl) ?_
   refine oD ?_
   refine qT ?_
   refine cQ ?_
   refine CodT.no (by kernel_rfl) ?_
   refine CodT.exit ?_
   refine Qn.exit_then ?_
   refine Qn.exit_then ?_
   refine Qn.block ?_
   have hI := hI.drop
   have e := someS h1
   subst e
   exact Qn.thenJ fun a ha => ⟨rfl, ha.keep [] (by kernel_rfl), hI⟩
 ·
  rintro a w ⟨rfl, ha, hI⟩
  try dsimp only at h0
  refine Qn.of ?_ ha
  refine qT ?_
  refine cQ ?_
  refine cR [0] (by kernel_rfl) ?_
  refine oP (r := []) [0] (S' := [(6, iv (-1))]) (by kernel_rfl) ?_
  refine oD ?_
  refine qT ?_
  refine CodT.ret ?_
  have e := someS h0
  subst e
  refine qK [6] (S' := [(6, iv (-1))]) (by kernel_rfl) ?_
  exact post_ret (v := iv (-1)) (fun a ha => RunRes.run (vs := [iv (-1)]) (.tmp (t := 6) (by kernel_rfl) .nil) ha (by kernel_rfl)) ⟨rfl, hI⟩
/-- strings.IndexFunc -/
theorem c59 (w0 w : World) (Z : Hp) (A : HP) (hI : Inv w0 Z w A) (hT : Tabs Z) (a0 : ByteArray) (r : Int) (h0 : strings_IndexFunc__name_Valid_1 a0 = some r) :
  Calls prog 59 #[.string a0, .func (.func 57) #[] #[]] w (fun e w' => e = .returned (iv r) ∧ Inv w0 Z w' A) := by
 have e4 := calls_intro (R := (fun e w' => e = .returned (iv r) ∧ Inv w0 Z w' A)) (w := w) (args := [.string a0, .func (.func 57) #[] #[]]) (fn := Go.Proofs.Tryd.f59) 8 Go.Proofs.Tryd.func59 (by rfl) Go.Proofs.Tryd.ntmps59 (by kernel_rfl)
 refine e4 ?_
 clear e4
 unfold strings_IndexFunc__name_Valid_1 at h0
 refine cQ ?_
 refine cR [0] (by kernel_rfl) ?_
 refine oP (r := []) [0] (S' := [(0, .string a0), (1, .func (.func 57) #[] #[])]) (by kernel_rfl) ?_
 refine oD ?_
 refine qT ?_
 refine cQ ?_
 refine cR [0, 1, 2, 3] (by kernel_rfl) ?_
 refine oP (r := [2, 3]) [0, 1] (S' := [(5, .string a0), (6, .func (.func 57) #[] #[])]) (by kernel_rfl) ?_
 obtain ⟨y2, hc1, h0⟩ := bindS h0
 try dsimp only at h0
 refine oC (Does.call (d := some 7) (n := 74) (vs := [.string a0, .func (.func 57) #[] #[], .bool true]) (by kernel_rfl) en74 (c74 w0 w _ _ hI hT a0 true _ hc1) ?_)
 rintro e w ⟨rfl, hI⟩
 refine ⟨_, rfl, ?_⟩
 refine oP (r := []) [3] (S' := [(4, iv y2)]) (by kernel_rfl) ?_
 refine oD ?_
 refine qT ?_
 refine CodT.ret ?_
 have e := someS h0
 subst e
 refine qK [4] (S' := [(4, iv y2)]) (by kernel_rfl) ?_
 exact post_ret (v := iv y2) (fun a ha => RunRes.run (vs := [iv y2]) (.tmp (t := 4) (by kernel_rfl) .nil) ha (by kernel_rfl)) ⟨rfl, hI⟩
/-- cenotaph/name.Valid -/
theorem c34 (w0 w : World) (Z : Hp) (A : HP) (hI : Inv w0 Z w A) (hT : Tabs Z) (a0 : ByteArray) (r : Bool) (h0 : name_Valid a0 = some r) :
  Calls prog 34 #[.string a0] w (fun e w' => e = .returned (.bool r) ∧ Inv w0 Z w' A) := by
 have e4 := calls_intro (R := (fun e w' => e = .returned (.bool r) ∧ Inv w0 Z w' A)) (w := w) (args := [.string a0]) (fn := Go.Proofs.Tryd.f34) 32 Go.Proofs.Tryd.func34 (by rfl) Go.Proofs.Tryd.ntmps34 (by kernel_rfl)
 refine e4 ?_
 clear e4
 unfold name_Valid at h0
 refine cQ ?_
 refine cR [0] (by kernel_rfl) ?_
 refine oP (r := []) [0] (S' := [(0, .string a0)]) (by kernel_rfl) ?_
 refine oD ?_
 refine qT ?_
 refine cQ ?_
 refine cR [0] (by kernel_rfl) ?_
 refine oP (r := []) [0] (S' := [(0, .string a0), (3, .func (.func 57) #[] #[])]) (by kernel_rfl) ?_
 refine oD ?_
 refine qT ?_
 refine cQ ?_
 refine cR [0, 1, 2] (by kernel_rfl) ?_
 refine oP (r := [1, 2]) [0] (S' := [(0, .string a0), (3, .func (.func 57) #[] #[]), (5, .string a0)]) (by kernel_rfl) ?_
 obtain ⟨y2, hc1, h0⟩ := bindS h0
 try dsimp only at h0
 refine oC (Does.call (d := some 6) (n := 58) (vs := [.string a0]) (by kernel_rfl) en58 (c58 w0 w _ _ hI hT a0 _ hc1) ?_)
 rintro e w ⟨rfl, hI⟩
 refine ⟨_, rfl, ?_⟩
 refine oP (r := []) [2] (S' := [(0, .string a0), (3, .func (.func 57) #[] #[]), (4, iv y2)]) (by kernel_rfl) ?_
 refine oD ?_
 refine qT ?_
 obtain ⟨r1, h1, h0⟩ := bindS h0
 refine CodT.meet (fun a w => ∃ (x3 : Bool), x3 = r1 ∧ Fr 32 [(2, .bool x3)] a ∧ Inv w0 Z w A) ?_ ?_
 ·
  refine cR [0, 1, 2, 3, 4, 5, 6, 7, 8, 9, 10, 11, 12, 13, 14, 15, 16, 17, 18, 19, 20, 21, 22, 23, 24, 25] (by kernel_rfl) ?_
  refine oP (r := [3, 4, 5, 6, 7, 8, 9, 10, 11, 12, 13, 14, 15, 16, 17, 18, 19, 20, 21, 22, 23, 24, 25]) [0, 1, 2] (S' := [(0, .string a0), (3, .func (.func 57) #[] #[]), (4, iv y2), (9, .bool (decide (y2 > 0)))]) (by kernel_rfl) ?_
  by_cases hb4 : (decide (y2 > 0)) = true
  ·
   rw [if_pos hb4] at h1
   refine oK [0, 3, 4, 9] (S' := [(0, .string a0), (3, .func (.func 57) #[] #[]), (4, iv y2), (9, .bool true)]) (by (try simp only [hb4]); kernel_rfl) ?_
   refine oP (r := [7, 8, 9, 10, 11, 12, 13, 14, 15, 16, 17, 18, 19, 20, 21, 22, 23, 24, 25]) [3, 4, 5, 6] (S' := [(0, .string a0), (3, .func (.func 57) #[] #[]), (13, .bool (decide (y2 ≤ 24)))]) (by kernel_rfl) ?_
   by_cases hb5 : (decide (y2 ≤ 24)) = true
   ·
    rw [if_pos hb5] at h1
    refine oK [0, 3, 13] (S' := [(0, .string a0), (3, .func (.func 57) #[] #[]), (13, .bool true)]) (by (try simp only [hb5]); kernel_rfl) ?_
    refine oP (r := [9, 10, 11, 12, 13, 14, 15, 16, 17, 18, 19, 20, 21, 22, 23, 24, 25]) [7, 8] (S' := [(0, .string a0), (13, .bool true), (14, .string a0), (15, .func (.func 57) #[] #[])]) (by kernel_rfl) ?_
    obtain ⟨y7, hc6, h1⟩ := bindS h1
    try dsimp only at h1
    refine oC (Does.call (d := some 16) (n := 59) (vs := [.string a0, .func (.func 57) #[] #[]]) (by kernel_rfl) en59 (c59 w0 w _ _ hI hT a0 _ hc6) ?_)
    rintro e w ⟨rfl, hI⟩
    refine ⟨_, rfl, ?_⟩
    refine oP (r := [13, 14, 15, 16, 17, 18, 19, 20, 21, 22, 23, 24, 25]) [10, 11, 12] (S' := [(0, .string a0), (19, .bool (decide (y7 < 0)))]) (by kernel_rfl) ?_
    by_cases hb8 : (decide (y7 < 0)) = true
    ·
     rw [if_pos hb8] at h1
     refine oK [0, 19] (S' := [(0, .string a0), (19, .bool true)]) (by (try simp only [hb8]); kernel_rfl) ?_
     refine oP (r := [14, 15, 16, 17, 18, 19, 20, 21, 22, 23, 24, 25]) [13] (S' := [(0, .string a0), (19, .bool true), (20, .string a0)]) (by kernel_rfl) ?_
     obtain ⟨hg9, h1⟩ := guardS h1
     refine oC (Does.yi (Yl.indexStr (d := 21) (T := 9) (k := .i64) (j := 0) (s := a0) (by kernel_rfl) Go.Proofs.Tryd.underlying9 hg9.1 hg9.2) hI ?_)
     refine oP (r := [18, 19, 20, 21, 22, 23, 24, 25]) [15, 16, 17] (S' := [(0, .string a0), (24, .bool ((bt a0 0) != 32))]) (by kernel_rfl) ?_
     by_cases hb10 : ((bt a0 0) != 32) = true
     ·
      rw [if_pos hb10] at h1
      refine oK [0, 24] (S' := [(0, .string a0), (24, .bool true)]) (by (try simp only [hb10]); kernel_rfl) ?_
      refine oP (r := [22, 23, 24, 25]) [18, 19, 20, 21] (S' := [(24, .bool true), (25, .string a0), (28, iv (wi64 ((a0.size : Int) - 1)))]) (by kernel_rfl) ?_
      obtain ⟨hg11, h1⟩ := guardS h1
      refine oC (Does.yi (Yl.indexStr (d := 29) (T := 9) (k := .i64) (j := wi64 ((a0.size : Int) - 1)) (s := a0) (by kernel_rfl) Go.Proofs.Tryd.underlying9 hg11.1 hg11.2) hI ?_)
      refine oP (r := []) [23, 24, 25] (S' := [(2, .bool ((bt a0 (wi64 ((a0.size : Int) - 1))) != 32))]) (by kernel_rfl) ?_
      refine oD ?_
      have e := someS h1
      subst e
      exact Qn.thenJ fun a ha => ⟨(bt a0 (wi64 ((a0.size : Int) - 1))) != 32, rfl, ha.keep [2] (by kernel_rfl), hI⟩
     ·
      rw [if_neg hb10] at h1
      have hb10 : ((bt a0 0) != 32) = false := by simpa using hb10
      refine oK [0, 24] (S' := [(0, .string a0), (24, .bool false)]) (by (try simp only [hb10]); kernel_rfl) ?_
      refine oP (r := []) [18, 19, 20, 21, 22, 23, 24, 25] (S' := [(2, .bool false)]) (by kernel_rfl) ?_
      refine oD ?_
      have e := someS h1
      subst e
      exact Qn.thenJ fun a ha => ⟨false, rfl, ha.keep [2] (by kernel_rfl), hI⟩
    ·
     rw [if_neg hb8] at h1
     have hb8 : (decide (y7 < 0)) = false := by simpa using hb8
     refine oK [0, 19] (S' := [(0, .string a0), (19, .bool false)]) (by (try simp only [hb8]); kernel_rfl) ?_
     refine oP (r := []) [13, 14, 15, 16, 17, 18, 19, 20, 21, 22, 23, 24, 25] (S' := [(2, .bool false)]) (by kernel_rfl) ?_
     refine oD ?_
     have e := someS h1
     subst e
     exact Qn.thenJ fun a ha => ⟨false, rfl, ha.keep [2] (by kernel_rfl), hI⟩
   ·
    rw [if_neg hb5] at h1
    have hb5 : (decide (y2 ≤ 24)) = false := by simpa using hb5
    refine oK [0, 3, 13] (S' := [(0, .string a0), (3, .func (.func 57) #[] #[]), (13, .bool false)]) (by (try simp only [hb5]); kernel_rfl) ?_
    refine oP (r := []) [7, 8, 9, 10, 11, 12, 13, 14, 15, 16, 17, 18, 19, 20, 21, 22, 23, 24, 25] (S' := [(2, .bool false)]) (by kernel_rfl) ?_
    refine oD ?_
    have e := someS h1
    subst e
    exact Qn.thenJ fun a ha => ⟨false, rfl, ha.keep [2] (by kernel_rfl), hI⟩
  ·
   rw [if_neg hb4] at h1
   have hb4 : (decide (y2 > 0)) = false := by simpa using hb4
   refine oK [0, 3, 4, 9] (S' := [(0, .string a0), (3, .func (.func 57) #[] #[]), (4, iv y2), (9, .bool false)]) (by (try simp only [hb4]); kernel_rfl) ?_
   refine oP (r := []) [3, 4, 5, 6, 7, 8, 9, 10, 11, 12, 13, 14, 15, 16, 17, 18, 19, 20, 21, 22, 23, 24, 25] (S' := [(2, .bool false)]) (by kernel_rfl) ?_
   refine oD ?_
   have e := someS h1
   subst e
   exact Qn.thenJ fun a ha => ⟨false, rfl, ha.keep [2] (by kernel_rfl), hI⟩
 ·
  rintro a w ⟨x3, rfl, ha, hI⟩
  try dsimp only at h0
  refine CodT.of ?_ ha
  refine CodT.ret ?_
  have e := someS h0
  subst e
  refine qK [2] (S' := [(2, .bool x3)]) (by kernel_rfl) ?_
  exact post_ret (v := .bool x3) (fun a ha => RunRes.run (vs := [.bool x3]) (.tmp (t := 2) (by kernel_rfl) .nil) ha (by kernel_rfl)) ⟨rfl, hI⟩
/-- slices.Index[[]string,string] -/
theorem c40 (w0 w : World) (Z : Hp) (A : HP) (hI : Inv w0 Z w A) (hT : Tabs Z) (A_a0 : Option Addr) (c_a0 : Nat) (a0 : (List ByteArray)) (hr_a0 : RdS Z cS 1 A_a0 c_a0 a0) (a1 : ByteArray) (r : Int) (h0 : slices_Index_string a0 a1 = some r) :
  Calls prog 40 #[.slice A_a0 a0.length c_a0, .string a1] w (fun e w' => e = .returned (iv r) ∧ Inv w0 Z w' A) := by
 have e4 := calls_intro (R := (fun e w' => e = .returned (iv r) ∧ Inv w0 Z w' A)) (w := w) (args := [.slice A_a0 a0.length c_a0, .string a1]) (fn := Go.Proofs.Tryd.f40) 19 Go.Proofs.Tryd.func40 (by rfl) Go.Proofs.Tryd.ntmps40 (by kernel_rfl)
 refine e4 ?_
 clear e4
 unfold slices_Index_string at h0
 refine cQ ?_
 refine cR [0] (by kernel_rfl) ?_
 refine oP (r := []) [0] (S' := [(0, .slice A_a0 a0.length c_a0), (1, .string a1)]) (by kernel_rfl) ?_
 refine oD ?_
 refine qT ?_
 refine cQ ?_
 refine cQ ?_
 refine cR [0, 1, 2] (by kernel_rfl) ?_
 refine oP (r := []) [0, 1, 2] (S' := [(0, .slice A_a0 a0.length c_a0), (1, .string a1), (7, iv (a0.length : Int)), (8, iv 0)]) (by kernel_rfl) ?_
 refine oD ?_
 refine qT ?_
 obtain ⟨r1, h1, h0⟩ := bindS h0
 refine CodT.meet1 (fun a w => .inr () = r1 ∧ Fr 19 [] a ∧ Inv w0 Z w A) ?_ ?_
 ·
  refine CodT.block ?_
  refine (fun a ha => wp_loopN (fun k a w => ∃ (x1 : Int), slices_Index_string.l0 a0 a1 k x1 = some r1 ∧ Fr 19 [(0, .slice A_a0 a0.length c_a0), (1, .string a1), (7, iv (a0.length : Int)), (8, iv x1)] a ∧ Inv w0 Z w A) ?_ FU a w ⟨0, h1, ha.keep [0, 1, 7, 8] (by kernel_rfl), hI⟩)
  clear h1 hI
  rintro k a w ⟨x1, h1, ha, hI⟩
  rcases k with _ | k
  ·
   cases h1
  simp only [slices_Index_string.l0] at h1
  refine CodT.of ?_ ha
  refine cQ ?_
  refine cR [0] (by kernel_rfl) ?_
  refine oP (r := []) [0] (S' := [(0, .slice A_a0 a0.length c_a0), (1, .string a1), (7, iv (a0.length : Int)), (8, iv x1), (9, .bool (decide (x1 < (a0.length : Int))))]) (by kernel_rfl) ?_
  refine oD ?_
  refine qT ?_
  refine cQ ?_
  by_cases hb2 : (decide (x1 < (a0.length : Int))) = true
  ·
   rw [if_pos hb2] at h1
   refine CodT.yes' (b := decide (x1 < (a0.length : Int))) (by kernel_rfl) hb2 ?_
   refine CodT.skip ?_
   refine qT ?_
   refine cQ ?_
   refine CodT.block ?_
   refine cQ ?_
   refine cR [0, 1] (by kernel_rfl) ?_
   refine oP (r := []) [0, 1] (S' := [(0, .slice A_a0 a0.length c_a0), (1, .string a1), (5, iv x1), (7, iv (a0.length : Int)), (8, iv x1)]) (by kernel_rfl) ?_
   refine oD ?_
   refine qT ?_
   refine cQ ?_
   refine cR [0, 1, 2, 3, 4, 5] (by kernel_rfl) ?_
   refine oP (r := [3, 4, 5]) [0, 1, 2] (S' := [(0, .slice A_a0 a0.length c_a0), (1, .string a1), (5, iv x1), (7, iv (a0.length : Int)), (8, iv x1), (11, .string a1), (12, .slice A_a0 a0.length c_a0), (13, iv x1)]) (by kernel_rfl) ?_
   obtain ⟨hg3, h1⟩ := guardS h1
   obtain ⟨g4, o8, hA5, hr6, hl7⟩ := RdS.get hr_a0 hg3.1 hg3.2
   refine oC (Does.yi (Yl.indexSlice (d := 14) (T := 25) (cc := c_a0) (k := .i64) (j := x1) (g := g4) (o := o8) (by kernel_rfl) Go.Proofs.Tryd.underlying25 ty9 hA5 hg3.1 hg3.2) hI ?_)
   refine oC (Does.yi (Yl.load (d := 15) (T := 9) (v := .string (gt a0 x1)) (by kernel_rfl) (ldR ty9 (v := .string (gt a0 x1)) 0 (fun w hC => hr6 w0 w _ hC) (by kernel_rfl))) hI ?_)
   refine oP (r := []) [5] (S' := [(0, .slice A_a0 a0.length c_a0), (1, .string a1), (5, iv x1), (7, iv (a0.length : Int)), (8, iv x1), (16, .bool (seq a1 (gt a0 x1)))]) (by kernel_rfl) ?_
   refine oD ?_
   refine qT ?_
   by_cases hb9 : (seq a1 (gt a0 x1)) = true
   ·
    rw [if_pos hb9] at h1
    refine CodT.yes' (b := seq a1 (gt a0 x1)) (by kernel_rfl) hb9 ?_
    refine cQ ?_
    refine cR [0, 1] (by kernel_rfl) ?_
    refine oP (r := []) [0, 1] (S' := [(4, iv x1)]) (by kernel_rfl) ?_
    refine oD ?_
    refine qT ?_
    refine CodT.ret ?_
    refine Qn.block_ret ?_
    refine Qn.ret_then ?_
    refine Qn.ret_then ?_
    refine Qn.block_ret ?_
    refine Qn.ret_then ?_
    refine Qn.ret_then ?_
    have e := someS h1
    subst e
    try dsimp only at h0
    have e := someS h0
    subst e
    refine qK [4] (S' := [(4, iv x1)]) (by kernel_rfl) ?_
    exact post_ret (v := iv x1) (fun a ha => RunRes.run (vs := [iv x1]) (.tmp (t := 4) (by kernel_rfl) .nil) ha (by kernel_rfl)) ⟨rfl, hI⟩
   ·
    rw [if_neg hb9] at h1
    refine CodT.no' (b := seq a1 (gt a0 x1)) (by kernel_rfl) (by simpa using hb9) ?_
    refine CodT.skip ?_
    refine Qn.block_normal ?_
    refine qT ?_
    refine cR [0, 1] (by kernel_rfl) ?_
    refine oP (r := []) [0, 1] (S' := [(0, .slice A_a0 a0.length c_a0), (1, .string a1), (7, iv (a0.length : Int)), (8, iv (wi64 (x1 + 1)))]) (by kernel_rfl) ?_
    refine oD ?_
    exact Qn.thenJ fun a ha => ⟨k, Nat.lt_succ_self k, wi64 (x1 + 1), h1, ha.keep [0, 1, 7, 8] (by kernel_rfl), hI⟩
  ·
   rw [if_neg hb2] at h1
   refine CodT.no' (b := decide (x1 < (a0.length : Int))) (by kernel_rfl) (by simpa using hb2) ?_
   refine CodT.exit ?_
   refine Qn.exit_then ?_
   refine Qn.exit_then ?_
   refine Qn.block ?_
   have e := someS h1
   subst e
   exact Qn.thenJ fun a ha => ⟨rfl, ha.keep [] (by kernel_rfl), hI⟩
 ·
  rintro a w ⟨rfl, ha, hI⟩
  try dsimp only at h0
  refine Qn.of ?_ ha
  refine qT ?_
  refine cQ ?_
  refine cR [0] (by kernel_rfl) ?_
  refine oP (r := []) [0] (S' := [(4, iv (-1))]) (by kernel_rfl) ?_
  refine oD ?_
  refine qT ?_
  refine CodT.ret ?_
  have e := someS h0
  subst e
  refine qK [4] (S' := [(4, iv (-1))]) (by kernel_rfl) ?_
  exact post_ret (v := iv (-1)) (fun a ha => RunRes.run (vs := [iv (-1)]) (.tmp (t := 4) (by kernel_rfl) .nil) ha (by kernel_rfl)) ⟨rfl, hI⟩
/-- slices.Contains[[]string,string] -/
theorem c35 (w0 w : World) (Z : Hp) (A : HP) (hI : Inv w0 Z w A) (hT : Tabs Z) (A_a0 : Option Addr) (c_a0 : Nat) (a0 : (List ByteArray)) (hr_a0 : RdS Z cS 1 A_a0 c_a0 a0) (a1 : ByteArray) (r : Bool) (h0 : slices_Contains_string a0 a1 = some r) :
  Calls prog 35 #[.slice A_a0 a0.length c_a0, .string a1] w (fun e w' => e = .returned (.bool r) ∧ Inv w0 Z w' A) := by
 have e4 := calls_intro (R := (fun e w' => e = .returned (.bool r) ∧ Inv w0 Z w' A)) (w := w) (args := [.slice A_a0 a0.length c_a0, .string a1]) (fn := Go.Proofs.Tryd.f35) 9 Go.Proofs.Tryd.func35 (by rfl) Go.Proofs.Tryd.ntmps35 (by kernel_rfl)
 refine e4 ?_
 clear e4
 unfold slices_Contains_string at h0
 refine cQ ?_
 refine cR [0] (by kernel_rfl) ?_
 refine oP (r := []) [0] (S' := [(0, .slice A_a0 a0.length c_a0), (1, .string a1)]) (by kernel_rfl) ?_
 refine oD ?_
 refine qT ?_
 refine cQ ?_
 refine cR [0, 1, 2, 3, 4] (by kernel_rfl) ?_
 refine oP (r := [2, 3, 4]) [0, 1] (S' := [(5, .slice A_a0 a0.length c_a0), (6, .string a1)]) (by kernel_rfl) ?_
 obtain ⟨y2, hc1, h0⟩ := bindS h0
 try dsimp only at h0
 refine oC (Does.call (d := some 7) (n := 40) (vs := [.slice A_a0 a0.length c_a0, .string a1]) (by kernel_rfl) en40 (c40 w0 w _ _ hI hT A_a0 c_a0 a0 hr_a0 a1 _ hc1) ?_)
 rintro e w ⟨rfl, hI⟩
 refine ⟨_, rfl, ?_⟩
 refine oP (r := []) [3, 4] (S' := [(4, .bool (decide (y2 ≥ 0)))]) (by kernel_rfl) ?_
 refine oD ?_
 refine qT ?_
 refine CodT.ret ?_
 have e := someS h0
 subst e
 refine qK [4] (S' := [(4, .bool (decide (y2 ≥ 0)))]) (by kernel_rfl) ?_
 exact post_ret (v := .bool (decide (y2 ≥ 0))) (fun a ha => RunRes.run (vs := [.bool (decide (y2 ≥ 0))]) (.tmp (t := 4) (by kernel_rfl) .nil) ha (by kernel_rfl)) ⟨rfl, hI⟩
/-- unicode/utf8.decodeRuneInStringSlow -/
theorem c89 (w0 w : World) (Z : Hp) (A : HP) (hI : Inv w0 Z w A) (hT : Tabs Z) (a0 : ByteArray) (r : (Int × Int)) (h0 : utf8_decodeRuneInStringSlow a0 = some r) :
  Calls prog 89 #[.string a0] w (fun e w' => e = .returned (.tuple #[.int .i32 r.1, iv r.2]) ∧ Inv w0 Z w' A) := by
 have e4 := calls_intro (R := (fun e w' => e = .returned (.tuple #[.int .i32 r.1, iv r.2]) ∧ Inv w0 Z w' A)) (w := w) (args := [.string a0]) (fn := Go.Proofs.Tryd.f89) 117 Go.Proofs.Tryd.func89 (by rfl) Go.Proofs.Tryd.ntmps89 (by kernel_rfl)
 refine e4 ?_
 clear e4
 unfold utf8_decodeRuneInStringSlow at h0
 refine cQ ?_
 refine cR [0, 1] (by kernel_rfl) ?_
 refine oP (r := []) [0, 1] (S' := [(0, .string a0)]) (by kernel_rfl) ?_
 refine oD ?_
 refine qT ?_
 refine cQ ?_
 refine cR [0, 1, 2] (by kernel_rfl) ?_
 refine oP (r := []) [0, 1, 2] (S' := [(0, .string a0), (4, iv (a0.size : Int))]) (by kernel_rfl) ?_
 refine oD ?_
 refine qT ?_
 refine cQ ?_
 refine cQ ?_
 refine cR [0, 1] (by kernel_rfl) ?_
 refine oP (r := []) [0, 1] (S' := [(0, .string a0), (4, iv (a0.size : Int)), (16, .bool (decide ((a0.size : Int) < 1)))]) (by kernel_rfl) ?_
 refine oD ?_
 refine qT ?_
 by_cases hb1 : (decide ((a0.size : Int) < 1)) = true
 ·
  rw [if_pos hb1] at h0
  refine CodT.yes' (b := decide ((a0.size : Int) < 1)) (by kernel_rfl) hb1 ?_
  refine cQ ?_
  refine cR [0, 1] (by kernel_rfl) ?_
  refine oP (r := []) [0, 1] (S' := [(2, .int .i32 65533), (3, iv 0)]) (by kernel_rfl) ?_
  refine oD ?_
  refine qT ?_
  refine CodT.ret ?_
  refine Qn.ret_then ?_
  have e := someS h0
  subst e
  refine qK [2, 3] (S' := [(2, .int .i32 65533), (3, iv 0)]) (by kernel_rfl) ?_
  exact post_ret (v := .tuple #[.int .i32 65533, iv 0]) (fun a ha => RunRes.run (vs := [.int .i32 65533, iv 0]) (.tmp (t := 2) (by kernel_rfl) (.tmp (t := 3) (by kernel_rfl) .nil)) ha (by kernel_rfl)) ⟨rfl, hI⟩
 ·
  rw [if_neg hb1] at h0
  refine CodT.no' (b := decide ((a0.size : Int) < 1)) (by kernel_rfl) (by simpa using hb1) ?_
  refine CodT.skip ?_
  refine qT ?_
  refine cQ ?_
  refine cR [0, 1, 2] (by kernel_rfl) ?_
  refine oP (r := [1, 2]) [0] (S' := [(0, .string a0), (4, iv (a0.size : Int)), (17, .string a0)]) (by kernel_rfl) ?_
  obtain ⟨hg2, h0⟩ := guardS h0
  refine oC (Does.yi (Yl.indexStr (d := 18) (T := 9) (k := .i64) (j := 0) (s := a0) (by kernel_rfl) Go.Proofs.Tryd.underlying9 hg2.1 hg2.2) hI ?_)
  refine oP (r := []) [2] (S' := [(0, .string a0), (4, iv (a0.size : Int)), (5, .int .u8 (bt a0 0))]) (by kernel_rfl) ?_
  refine oD ?_
  refine qT ?_
  refine cQ ?_
  refine cR [0, 1, 2, 3] (by kernel_rfl) ?_
  refine oP (r := [1, 2, 3]) [0] (S' := [(0, .string a0), (4, iv (a0.size : Int)), (5, .int .u8 (bt a0 0)), (19, .int .u8 (bt a0 0))]) (by kernel_rfl) ?_
  obtain ⟨hg3, h0⟩ := guardS h0
  obtain ⟨hr4, hl5⟩ := RdS.getC hT.1 (n := 256) (by kernel_rfl) hg3.1 hg3.2
  refine oC (Does.yi (Yl.indexArr (d := 20) (T := 116) (k := .u8) (j := bt a0 0) (g := 0) (o := 0) (by kernel_rfl) Go.Proofs.Tryd.underlying116 ty5 hg3.1 hg3.2) hI ?_)
  refine oC (Does.yi (Yl.load (d := 21) (T := 5) (v := .int .u8 (gt tab0 (bt a0 0))) (by kernel_rfl) (ldR ty5 (v := .int .u8 (gt tab0 (bt a0 0))) 0 (fun w hC => hr4 w0 w _ hC) (by kernel_rfl))) hI ?_)
  refine oP (r := []) [3] (S' := [(0, .string a0), (4, iv (a0.size : Int)), (5, .int .u8 (bt a0 0)), (6, .int .u8 (gt tab0 (bt a0 0)))]) (by kernel_rfl) ?_
  refine oD ?_
  refine qT ?_
  refine cQ ?_
  refine cQ ?_
  refine cR [0, 1] (by kernel_rfl) ?_
  refine oP (r := []) [0, 1] (S' := [(0, .string a0), (4, iv (a0.size : Int)), (5, .int .u8 (bt a0 0)), (6, .int .u8 (gt tab0 (bt a0 0))), (23, .bool (decide ((gt tab0 (bt a0 0)) ≥ 240)))]) (by kernel_rfl) ?_
  refine oD ?_
  refine qT ?_
  by_cases hb6 : (decide ((gt tab0 (bt a0 0)) ≥ 240)) = true
  ·
   rw [if_pos hb6] at h0
   refine CodT.yes' (b := decide ((gt tab0 (bt a0 0)) ≥ 240)) (by kernel_rfl) hb6 ?_
   refine cQ ?_
   refine cR [0, 1, 2, 3, 4] (by kernel_rfl) ?_
   refine oP (r := []) [0, 1, 2, 3, 4] (S' := [(0, .string a0), (7, .int .i32 (bShr .i32 (bShl .i32 (wi32 (gt tab0 (bt a0 0))) 31) 31))]) (by kernel_rfl) ?_
   refine oD ?_
   refine qT ?_
   refine cQ ?_
   refine cR [0, 1, 2, 3, 4, 5, 6, 7, 8, 9] (by kernel_rfl) ?_
   refine oP (r := [1, 2, 3, 4, 5, 6, 7, 8, 9]) [0] (S' := [(7, .int .i32 (bShr .i32 (bShl .i32 (wi32 (gt tab0 (bt a0 0))) 31) 31)), (28, .string a0)]) (by kernel_rfl) ?_
   obtain ⟨hg7, h0⟩ := guardS h0
   refine oC (Does.yi (Yl.indexStr (d := 29) (T := 9) (k := .i64) (j := 0) (s := a0) (by kernel_rfl) Go.Proofs.Tryd.underlying9 hg7.1 hg7.2) hI ?_)
   refine oP (r := []) [2, 3, 4, 5, 6, 7, 8, 9] (S' := [(2, .int .i32 (bOr .i32 (bAndNot .i32 (wi32 (bt a0 0)) (bShr .i32 (bShl .i32 (wi32 (gt tab0 (bt a0 0))) 31) 31)) (bAnd .i32 65533 (bShr .i32 (bShl .i32 (wi32 (gt tab0 (bt a0 0))) 31) 31)))), (3, iv 1)]) (by kernel_rfl) ?_
   refine oD ?_
   refine qT ?_
   refine CodT.ret ?_
   refine Qn.ret_then ?_
   have e := someS h0
   subst e
   refine qK [2, 3] (S' := [(2, .int .i32 (bOr .i32 (bAndNot .i32 (wi32 (bt a0 0)) (bShr .i32 (bShl .i32 (wi32 (gt tab0 (bt a0 0))) 31) 31)) (bAnd .i32 65533 (bShr .i32 (bShl .i32 (wi32 (gt tab0 (bt a0 0))) 31) 31)))), (3, iv 1)]) (by kernel_rfl) ?_
   exact post_ret (v := .tuple #[.int .i32 (bOr .i32 (bAndNot .i32 (wi32 (bt a0 0)) (bShr .i32 (bShl .i32 (wi32 (gt tab0 (bt a0 0))) 31) 31)) (bAnd .i32 65533 (bShr .i32 (bShl .i32 (wi32 (gt tab0 (bt a0 0))) 31) 31))), iv 1]) (fun a ha => RunRes.run (vs := [.int .i32 (bOr .i32 (bAndNot .i32 (wi32 (bt a0 0)) (bShr .i32 (bShl .i32 (wi32 (gt tab0 (bt a0 0))) 31) 31)) (bAnd .i32 65533 (bShr .i32 (bShl .i32 (wi32 (gt tab0 (bt a0 0))) 31) 31))), iv 1]) (.tmp (t := 2) (by kernel_rfl) (.tmp (t := 3) (by kernel_rfl) .nil)) ha (by kernel_rfl)) ⟨rfl, hI⟩
  ·
   rw [if_neg hb6] at h0
   refine CodT.no' (b := decide ((gt tab0 (bt a0 0)) ≥ 240)) (by kernel_rfl) (by simpa using hb6) ?_
   refine CodT.skip ?_
   refine qT ?_
   refine cQ ?_
   refine cR [0, 1, 2, 3] (by kernel_rfl) ?_
   refine oP (r := []) [0, 1, 2, 3] (S' := [(0, .string a0), (4, iv (a0.size : Int)), (5, .int .u8 (bt a0 0)), (6, .int .u8 (gt tab0 (bt a0 0))), (8, iv (wi64 (bAnd .u8 (gt tab0 (bt a0 0)) 7)))]) (by kernel_rfl) ?_
   refine oD ?_
   refine qT ?_
   refine cQ ?_
   refine cR [0, 1, 2, 3, 4, 5] (by kernel_rfl) ?_
   refine oP (r := [2, 3, 4, 5]) [0, 1] (S' := [(0, .string a0), (4, iv (a0.size : Int)), (5, .int .u8 (bt a0 0)), (8, iv (wi64 (bAnd .u8 (gt tab0 (bt a0 0)) 7))), (40, .int .u8 (bShr .u8 (gt tab0 (bt a0 0)) 4))]) (by kernel_rfl) ?_
   obtain ⟨hg8, h0⟩ := guardS h0
   obtain ⟨hr9, hl10⟩ := RdS.getC hT.2.1 (n := 16) (by kernel_rfl) hg8.1 hg8.2
   refine oC (Does.yi (Yl.indexArr (d := 41) (T := 119) (k := .u8) (j := bShr .u8 (gt tab0 (bt a0 0)) 4) (g := 1) (o := 0) (by kernel_rfl) Go.Proofs.Tryd.underlying119 ty118 hg8.1 hg8.2) hI ?_)
   refine oC (Does.yi (Yl.load (d := 42) (T := 118) (v := .agg (c_Utf8AcceptRange (gt tab1 (bShr .u8 (gt tab0 (bt a0 0)) 4))).toArray) (by kernel_rfl) (ldRN ty118 (cs := c_Utf8AcceptRange (gt tab1 (bShr .u8 (gt tab0 (bt a0 0)) 4))) 0 (fun w hC => hr9 w0 w _ hC) hl10 (whole _ _ hl10))) hI ?_)
   refine oC (Does.allocL (d := 9) (T := 118) (c_Utf8AcceptRange (Utf8AcceptRange.mk 0 0)) (by kernel_rfl) ty118 hI (by kernel_rfl) ?_)
   intro b11 w hI
   refine oC (dS (T := 118) (b := b11) (o := 0) (v := .agg (c_Utf8AcceptRange (gt tab1 (bShr .u8 (gt tab0 (bt a0 0)) 4))).toArray) (l := c_Utf8AcceptRange (Utf8AcceptRange.mk 0 0)) (vs := c_Utf8AcceptRange (gt tab1 (bShr .u8 (gt tab0 (bt a0 0)) 4))) (L' := c_Utf8AcceptRange (gt tab1 (bShr .u8 (gt tab0 (bt a0 0)) 4))) (by kernel_rfl) ty118 hI (by kernel_rfl) (by kernel_rfl) (by kernel_rfl) (by kernel_rfl) (by kernel_rfl) ?_)
   intro w hI
   refine oD ?_
   refine qT ?_
   refine cQ ?_
   refine cQ ?_
   refine cR [0, 1, 2] (by kernel_rfl) ?_
   refine oP (r := []) [0, 1, 2] (S' := [(0, .string a0), (5, .int .u8 (bt a0 0)), (8, iv (wi64 (bAnd .u8 (gt tab0 (bt a0 0)) 7))), (9, pb b11), (45, .bool (decide ((a0.size : Int) < (wi64 (bAnd .u8 (gt tab0 (bt a0 0)) 7)))))]) (by kernel_rfl) ?_
   refine oD ?_
   refine qT ?_
   by_cases hb12 : (decide ((a0.size : Int) < (wi64 (bAnd .u8 (gt tab0 (bt a0 0)) 7)))) = true
   ·
    rw [if_pos hb12] at h0
    refine CodT.yes' (b := decide ((a0.size : Int) < (wi64 (bAnd .u8 (gt tab0 (bt a0 0)) 7)))) (by kernel_rfl) hb12 ?_
    refine cQ ?_
    refine cR [0, 1] (by kernel_rfl) ?_
    refine oP (r := []) [0, 1] (S' := [(2, .int .i32 65533), (3, iv 1)]) (by kernel_rfl) ?_
    refine oD ?_
    refine qT ?_
    refine CodT.ret ?_
    refine Qn.ret_then ?_
    have hI := hI.drop
    have e := someS h0
    subst e
    refine qK [2, 3] (S' := [(2, .int .i32 65533), (3, iv 1)]) (by kernel_rfl) ?_
    exact post_ret (v := .tuple #[.int .i32 65533, iv 1]) (fun a ha => RunRes.run (vs := [.int .i32 65533, iv 1]) (.tmp (t := 2) (by kernel_rfl) (.tmp (t := 3) (by kernel_rfl) .nil)) ha (by kernel_rfl)) ⟨rfl, hI⟩
   ·
    rw [if_neg hb12] at h0
    refine CodT.no' (b := decide ((a0.size : Int) < (wi64 (bAnd .u8 (gt tab0 (bt a0 0)) 7)))) (by kernel_rfl) (by simpa using hb12) ?_
    refine CodT.skip ?_
    refine qT ?_
    refine cQ ?_
    refine cR [0, 1, 2] (by kernel_rfl) ?_
    refine oP (r := [1, 2]) [0] (S' := [(0, .string a0), (5, .int .u8 (bt a0 0)), (8, iv (wi64 (bAnd .u8 (gt tab0 (bt a0 0)) 7))), (9, pb b11), (46, .string a0)]) (by kernel_rfl) ?_
    obtain ⟨hg13, h0⟩ := guardS h0
    refine oC (Does.yi (Yl.indexStr (d := 47) (T := 9) (k := .i64) (j := 1) (s := a0) (by kernel_rfl) Go.Proofs.Tryd.underlying9 hg13.1 hg13.2) hI ?_)
    refine oP (r := []) [2] (S' := [(0, .string a0), (5, .int .u8 (bt a0 0)), (8, iv (wi64 (bAnd .u8 (gt tab0 (bt a0 0)) 7))), (9, pb b11), (10, .int .u8 (bt a0 1))]) (by kernel_rfl) ?_
    refine oD ?_
    refine qT ?_
    refine cQ ?_
    obtain ⟨r1, h1, h0⟩ := bindS h0
    refine CodT.meet (fun a w => ∃ (x14 : Bool), x14 = r1 ∧ Fr 117 [(0, .string a0), (5, .int .u8 (bt a0 0)), (8, iv (wi64 (bAnd .u8 (gt tab0 (bt a0 0)) 7))), (10, .int .u8 (bt a0 1)), (57, .bool x14)] a ∧ Inv w0 Z w A) ?_ ?_
    ·
     refine cR [0, 1, 2, 3, 4, 5, 6, 7, 8, 9] (by kernel_rfl) ?_
     refine oP (r := [2, 3, 4, 5, 6, 7, 8, 9]) [0, 1] (S' := [(0, .string a0), (5, .int .u8 (bt a0 0)), (8, iv (wi64 (bAnd .u8 (gt tab0 (bt a0 0)) 7))), (9, pb b11), (10, .int .u8 (bt a0 1)), (48, .int .u8 (bt a0 1)), (49, pb b11)]) (by kernel_rfl) ?_
     refine oC (Does.yi (Yl.load (d := 50) (T := 5) (v := .int .u8 ((gt tab1 (bShr .u8 (gt tab0 (bt a0 0)) 4)).lo)) (by kernel_rfl) (ldB ty5 (l := c_Utf8AcceptRange (gt tab1 (bShr .u8 (gt tab0 (bt a0 0)) 4))) (o := 0) (v := .int .u8 ((gt tab1 (bShr .u8 (gt tab0 (bt a0 0)) 4)).lo)) (ent_refl _) (by kernel_rfl))) hI ?_)
     refine oP (r := [5, 6, 7, 8, 9]) [3, 4] (S' := [(0, .string a0), (5, .int .u8 (bt a0 0)), (8, iv (wi64 (bAnd .u8 (gt tab0 (bt a0 0)) 7))), (9, pb b11), (10, .int .u8 (bt a0 1)), (52, .bool (decide ((bt a0 1) < ((gt tab1 (bShr .u8 (gt tab0 (bt a0 0)) 4)).lo))))]) (by kernel_rfl) ?_
     by_cases hb15 : (decide ((bt a0 1) < ((gt tab1 (bShr .u8 (gt tab0 (bt a0 0)) 4)).lo))) = true
     ·
      rw [if_pos hb15] at h1
      refine oK [0, 5, 8, 9, 10, 52] (S' := [(0, .string a0), (5, .int .u8 (bt a0 0)), (8, iv (wi64 (bAnd .u8 (gt tab0 (bt a0 0)) 7))), (9, pb b11), (10, .int .u8 (bt a0 1)), (52, .bool true)]) (by (try simp only [hb15]); kernel_rfl) ?_
      refine oP (r := []) [5, 6, 7, 8, 9] (S' := [(0, .string a0), (5, .int .u8 (bt a0 0)), (8, iv (wi64 (bAnd .u8 (gt tab0 (bt a0 0)) 7))), (10, .int .u8 (bt a0 1)), (57, .bool true)]) (by kernel_rfl) ?_
      refine oD ?_
      have hI := hI.drop
      have e := someS h1
      subst e
      exact Qn.thenJ fun a ha => ⟨true, rfl, ha.keep [0, 5, 8, 10, 57] (by kernel_rfl), hI⟩
     ·
      rw [if_neg hb15] at h1
      have hb15 : (decide ((bt a0 1) < ((gt tab1 (bShr .u8 (gt tab0 (bt a0 0)) 4)).lo))) = false := by simpa using hb15
      refine oK [0, 5, 8, 9, 10, 52] (S' := [(0, .string a0), (5, .int .u8 (bt a0 0)), (8, iv (wi64 (bAnd .u8 (gt tab0 (bt a0 0)) 7))), (9, pb b11), (10, .int .u8 (bt a0 1)), (52, .bool false)]) (by (try simp only [hb15]); kernel_rfl) ?_
      refine oP (r := [6, 7, 8, 9]) [5] (S' := [(0, .string a0), (5, .int .u8 (bt a0 0)), (8, iv (wi64 (bAnd .u8 (gt tab0 (bt a0 0)) 7))), (10, .int .u8 (bt a0 1)), (52, .bool false), (53, .pointer (some ⟨b11, 1, none⟩))]) (by kernel_rfl) ?_
      refine oC (Does.yi (Yl.load (d := 54) (T := 5) (v := .int .u8 ((gt tab1 (bShr .u8 (gt tab0 (bt a0 0)) 4)).hi)) (by kernel_rfl) (ldB ty5 (l := c_Utf8AcceptRange (gt tab1 (bShr .u8 (gt tab0 (bt a0 0)) 4))) (o := 1) (v := .int .u8 ((gt tab1 (bShr .u8 (gt tab0 (bt a0 0)) 4)).hi)) (ent_refl _) (by kernel_rfl))) hI ?_)
      refine oP (r := []) [7, 8, 9] (S' := [(0, .string a0), (5, .int .u8 (bt a0 0)), (8, iv (wi64 (bAnd .u8 (gt tab0 (bt a0 0)) 7))), (10, .int .u8 (bt a0 1)), (57, .bool (decide (((gt tab1 (bShr .u8 (gt tab0 (bt a0 0)) 4)).hi) < (bt a0 1))))]) (by kernel_rfl) ?_
      refine oD ?_
      have hI := hI.drop
      have e := someS h1
      subst e
      exact Qn.thenJ fun a ha => ⟨decide (((gt tab1 (bShr .u8 (gt tab0 (bt a0 0)) 4)).hi) < (bt a0 1)), rfl, ha.keep [0, 5, 8, 10, 57] (by kernel_rfl), hI⟩
    ·
     rintro a w ⟨x14, rfl, ha, hI⟩
     try dsimp only at h0
     refine CodT.of ?_ ha
     by_cases hb16 : x14 = true
     ·
      rw [if_pos hb16] at h0
      refine CodT.yes' (b := x14) (by kernel_rfl) hb16 ?_
      refine cQ ?_
      refine cR [0, 1] (by kernel_rfl) ?_
      refine oP (r := []) [0, 1] (S' := [(2, .int .i32 65533), (3, iv 1)]) (by kernel_rfl) ?_
      refine oD ?_
      refine qT ?_
      refine CodT.ret ?_
      refine Qn.ret_then ?_
      have e := someS h0
      subst e
      refine qK [2, 3] (S' := [(2, .int .i32 65533), (3, iv 1)]) (by kernel_rfl) ?_
      exact post_ret (v := .tuple #[.int .i32 65533, iv 1]) (fun a ha => RunRes.run (vs := [.int .i32 65533, iv 1]) (.tmp (t := 2) (by kernel_rfl) (.tmp (t := 3) (by kernel_rfl) .nil)) ha (by kernel_rfl)) ⟨rfl, hI⟩
     ·
      rw [if_neg hb16] at h0
      refine CodT.no' (b := x14) (by kernel_rfl) (by simpa using hb16) ?_
      refine CodT.skip ?_
      refine qT ?_
      refine cQ ?_
      refine cQ ?_
      refine cR [0, 1] (by kernel_rfl) ?_
      refine oP (r := []) [0, 1] (S' := [(0, .string a0), (5, .int .u8 (bt a0 0)), (8, iv (wi64 (bAnd .u8 (gt tab0 (bt a0 0)) 7))), (10, .int .u8 (bt a0 1)), (59, .bool (decide ((wi64 (bAnd .u8 (gt tab0 (bt a0 0)) 7)) ≤ 2)))]) (by kernel_rfl) ?_
      refine oD ?_
      refine qT ?_
      by_cases hb17 : (decide ((wi64 (bAnd .u8 (gt tab0 (bt a0 0)) 7)) ≤ 2)) = true
      ·
       rw [if_pos hb17] at h0
       refine CodT.yes' (b := decide ((wi64 (bAnd .u8 (gt tab0 (bt a0 0)) 7)) ≤ 2)) (by kernel_rfl) hb17 ?_
       refine cQ ?_
       refine cR [0, 1, 2, 3, 4, 5, 6, 7, 8, 9] (by kernel_rfl) ?_
       refine oP (r := []) [0, 1, 2, 3, 4, 5, 6, 7, 8, 9] (S' := [(2, .int .i32 (bOr .i32 (bShl .i32 (wi32 (bAnd .u8 (bt a0 0) 31)) 6) (wi32 (bAnd .u8 (bt a0 1) 63)))), (3, iv 2)]) (by kernel_rfl) ?_
       refine oD ?_
       refine qT ?_
       refine CodT.ret ?_
       refine Qn.ret_then ?_
       have e := someS h0
       subst e
       refine qK [2, 3] (S' := [(2, .int .i32 (bOr .i32 (bShl .i32 (wi32 (bAnd .u8 (bt a0 0) 31)) 6) (wi32 (bAnd .u8 (bt a0 1) 63)))), (3, iv 2)]) (by kernel_rfl) ?_
       exact post_ret (v := .tuple #[.int .i32 (bOr .i32 (bShl .i32 (wi32 (bAnd .u8 (bt a0 0) 31)) 6) (wi32 (bAnd .u8 (bt a0 1) 63))), iv 2]) (fun a ha => RunRes.run (vs := [.int .i32 (bOr .i32 (bShl .i32 (wi32 (bAnd .u8 (bt a0 0) 31)) 6) (wi32 (bAnd .u8 (bt a0 1) 63))), iv 2]) (.tmp (t := 2) (by kernel_rfl) (.tmp (t := 3) (by kernel_rfl) .nil)) ha (by kernel_rfl)) ⟨rfl, hI⟩
      ·
       rw [if_neg hb17] at h0
       refine CodT.no' (b := decide ((wi64 (bAnd .u8 (gt tab0 (bt a0 0)) 7)) ≤ 2)) (by kernel_rfl) (by simpa using hb17) ?_
       refine CodT.skip ?_
       refine qT ?_
       refine cQ ?_
       refine cR [0, 1, 2] (by kernel_rfl) ?_
       refine oP (r := [1, 2]) [0] (S' := [(0, .string a0), (5, .int .u8 (bt a0 0)), (8, iv (wi64 (bAnd .u8 (gt tab0 (bt a0 0)) 7))), (10, .int .u8 (bt a0 1)), (68, .string a0)]) (by kernel_rfl) ?_
       obtain ⟨hg18, h0⟩ := guardS h0
       refine oC (Does.yi (Yl.indexStr (d := 69) (T := 9) (k := .i64) (j := 2) (s := a0) (by kernel_rfl) Go.Proofs.Tryd.underlying9 hg18.1 hg18.2) hI ?_)
       refine oP (r := []) [2] (S' := [(0, .string a0), (5, .int .u8 (bt a0 0)), (8, iv (wi64 (bAnd .u8 (gt tab0 (bt a0 0)) 7))), (10, .int .u8 (bt a0 1)), (11, .int .u8 (bt a0 2))]) (by kernel_rfl) ?_
       refine oD ?_
       refine qT ?_
       refine cQ ?_
       obtain ⟨r1, h1, h0⟩ := bindS h0
       refine CodT.meet (fun a w => ∃ (x19 : Bool), x19 = r1 ∧ Fr 117 [(0, .string a0), (5, .int .u8 (bt a0 0)), (8, iv (wi64 (bAnd .u8 (gt tab0 (bt a0 0)) 7))), (10, .int .u8 (bt a0 1)), (11, .int .u8 (bt a0 2)), (75, .bool x19)] a ∧ Inv w0 Z w A) ?_ ?_
       ·
        refine cR [0, 1, 2, 3, 4, 5] (by kernel_rfl) ?_
        refine oP (r := [3, 4, 5]) [0, 1, 2] (S' := [(0, .string a0), (5, .int .u8 (bt a0 0)), (8, iv (wi64 (bAnd .u8 (gt tab0 (bt a0 0)) 7))), (10, .int .u8 (bt a0 1)), (11, .int .u8 (bt a0 2)), (72, .bool (decide ((bt a0 2) < 128)))]) (by kernel_rfl) ?_
        by_cases hb20 : (decide ((bt a0 2) < 128)) = true
        ·
         rw [if_pos hb20] at h1
         refine oK [0, 5, 8, 10, 11, 72] (S' := [(0, .string a0), (5, .int .u8 (bt a0 0)), (8, iv (wi64 (bAnd .u8 (gt tab0 (bt a0 0)) 7))), (10, .int .u8 (bt a0 1)), (11, .int .u8 (bt a0 2)), (72, .bool true)]) (by (try simp only [hb20]); kernel_rfl) ?_
         refine oP (r := []) [3, 4, 5] (S' := [(0, .string a0), (5, .int .u8 (bt a0 0)), (8, iv (wi64 (bAnd .u8 (gt tab0 (bt a0 0)) 7))), (10, .int .u8 (bt a0 1)), (11, .int .u8 (bt a0 2)), (75, .bool true)]) (by kernel_rfl) ?_
         refine oD ?_
         have e := someS h1
         subst e
         exact Qn.thenJ fun a ha => ⟨true, rfl, ha.keep [0, 5, 8, 10, 11, 75] (by kernel_rfl), hI⟩
        ·
         rw [if_neg hb20] at h1
         have hb20 : (decide ((bt a0 2) < 128)) = false := by simpa using hb20
         refine oK [0, 5, 8, 10, 11, 72] (S' := [(0, .string a0), (5, .int .u8 (bt a0 0)), (8, iv (wi64 (bAnd .u8 (gt tab0 (bt a0 0)) 7))), (10, .int .u8 (bt a0 1)), (11, .int .u8 (bt a0 2)), (72, .bool false)]) (by (try simp only [hb20]); kernel_rfl) ?_
         refine oP (r := []) [3, 4, 5] (S' := [(0, .string a0), (5, .int .u8 (bt a0 0)), (8, iv (wi64 (bAnd .u8 (gt tab0 (bt a0 0)) 7))), (10, .int .u8 (bt a0 1)), (11, .int .u8 (bt a0 2)), (75, .bool (decide ((191 : Int) < (bt a0 2))))]) (by kernel_rfl) ?_
         refine oD ?_
         have e := someS h1
         subst e
         exact Qn.thenJ fun a ha => ⟨decide ((191 : Int) < (bt a0 2)), rfl, ha.keep [0, 5, 8, 10, 11, 75] (by kernel_rfl), hI⟩
       ·
        rintro a w ⟨x19, rfl, ha, hI⟩
        try dsimp only at h0
        refine CodT.of ?_ ha
        by_cases hb21 : x19 = true
        ·
         rw [if_pos hb21] at h0
         refine CodT.yes' (b := x19) (by kernel_rfl) hb21 ?_
         refine cQ ?_
         refine cR [0, 1] (by kernel_rfl) ?_
         refine oP (r := []) [0, 1] (S' := [(2, .int .i32 65533), (3, iv 1)]) (by kernel_rfl) ?_
         refine oD ?_
         refine qT ?_
         refine CodT.ret ?_
         refine Qn.ret_then ?_
         have e := someS h0
         subst e
         refine qK [2, 3] (S' := [(2, .int .i32 65533), (3, iv 1)]) (by kernel_rfl) ?_
         exact post_ret (v := .tuple #[.int .i32 65533, iv 1]) (fun a ha => RunRes.run (vs := [.int .i32 65533, iv 1]) (.tmp (t := 2) (by kernel_rfl) (.tmp (t := 3) (by kernel_rfl) .nil)) ha (by kernel_rfl)) ⟨rfl, hI⟩
        ·
         rw [if_neg hb21] at h0
         refine CodT.no' (b := x19) (by kernel_rfl) (by simpa using hb21) ?_
         refine CodT.skip ?_
         refine qT ?_
         refine cQ ?_
         refine cQ ?_
         refine cR [0, 1] (by kernel_rfl) ?_
         refine oP (r := []) [0, 1] (S' := [(0, .string a0), (5, .int .u8 (bt a0 0)), (10, .int .u8 (bt a0 1)), (11, .int .u8 (bt a0 2)), (77, .bool (decide ((wi64 (bAnd .u8 (gt tab0 (bt a0 0)) 7)) ≤ 3)))]) (by kernel_rfl) ?_
         refine oD ?_
         refine qT ?_
         by_cases hb22 : (decide ((wi64 (bAnd .u8 (gt tab0 (bt a0 0)) 7)) ≤ 3)) = true
         ·
          rw [if_pos hb22] at h0
          refine CodT.yes' (b := decide ((wi64 (bAnd .u8 (gt tab0 (bt a0 0)) 7)) ≤ 3)) (by kernel_rfl) hb22 ?_
          refine cQ ?_
          refine cR [0, 1, 2, 3, 4, 5, 6, 7, 8, 9, 10, 11, 12, 13, 14] (by kernel_rfl) ?_
          refine oP (r := []) [0, 1, 2, 3, 4, 5, 6, 7, 8, 9, 10, 11, 12, 13, 14] (S' := [(2, .int .i32 (bOr .i32 (bOr .i32 (bShl .i32 (wi32 (bAnd .u8 (bt a0 0) 15)) 12) (bShl .i32 (wi32 (bAnd .u8 (bt a0 1) 63)) 6)) (wi32 (bAnd .u8 (bt a0 2) 63)))), (3, iv 3)]) (by kernel_rfl) ?_
          refine oD ?_
          refine qT ?_
          refine CodT.ret ?_
          refine Qn.ret_then ?_
          have e := someS h0
          subst e
          refine qK [2, 3] (S' := [(2, .int .i32 (bOr .i32 (bOr .i32 (bShl .i32 (wi32 (bAnd .u8 (bt a0 0) 15)) 12) (bShl .i32 (wi32 (bAnd .u8 (bt a0 1) 63)) 6)) (wi32 (bAnd .u8 (bt a0 2) 63)))), (3, iv 3)]) (by kernel_rfl) ?_
          exact post_ret (v := .tuple #[.int .i32 (bOr .i32 (bOr .i32 (bShl .i32 (wi32 (bAnd .u8 (bt a0 0) 15)) 12) (bShl .i32 (wi32 (bAnd .u8 (bt a0 1) 63)) 6)) (wi32 (bAnd .u8 (bt a0 2) 63))), iv 3]) (fun a ha => RunRes.run (vs := [.int .i32 (bOr .i32 (bOr .i32 (bShl .i32 (wi32 (bAnd .u8 (bt a0 0) 15)) 12) (bShl .i32 (wi32 (bAnd .u8 (bt a0 1) 63)) 6)) (wi32 (bAnd .u8 (bt a0 2) 63))), iv 3]) (.tmp (t := 2) (by kernel_rfl) (.tmp (t := 3) (by kernel_rfl) .nil)) ha (by kernel_rfl)) ⟨rfl, hI⟩
         ·
          rw [if_neg hb22] at h0
          refine CodT.no' (b := decide ((wi64 (bAnd .u8 (gt tab0 (bt a0 0)) 7)) ≤ 3)) (by kernel_rfl) (by simpa using hb22) ?_
          refine CodT.skip ?_
          refine qT ?_
          refine cQ ?_
          refine cR [0, 1, 2] (by kernel_rfl) ?_
          refine oP (r := [1, 2]) [0] (S' := [(5, .int .u8 (bt a0 0)), (10, .int .u8 (bt a0 1)), (11, .int .u8 (bt a0 2)), (91, .string a0)]) (by kernel_rfl) ?_
          obtain ⟨hg23, h0⟩ := guardS h0
          refine oC (Does.yi (Yl.indexStr (d := 92) (T := 9) (k := .i64) (j := 3) (s := a0) (by kernel_rfl) Go.Proofs.Tryd.underlying9 hg23.1 hg23.2) hI ?_)
          refine oP (r := []) [2] (S' := [(5, .int .u8 (bt a0 0)), (10, .int .u8 (bt a0 1)), (11, .int .u8 (bt a0 2)), (12, .int .u8 (bt a0 3))]) (by kernel_rfl) ?_
          refine oD ?_
          refine qT ?_
          refine cQ ?_
          obtain ⟨r1, h1, h0⟩ := bindS h0
          refine CodT.meet (fun a w => ∃ (x24 : Bool), x24 = r1 ∧ Fr 117 [(5, .int .u8 (bt a0 0)), (10, .int .u8 (bt a0 1)), (11, .int .u8 (bt a0 2)), (12, .int .u8 (bt a0 3)), (98, .bool x24)] a ∧ Inv w0 Z w A) ?_ ?_
          ·
           refine cR [0, 1, 2, 3, 4, 5] (by kernel_rfl) ?_
           refine oP (r := [3, 4, 5]) [0, 1, 2] (S' := [(5, .int .u8 (bt a0 0)), (10, .int .u8 (bt a0 1)), (11, .int .u8 (bt a0 2)), (12, .int .u8 (bt a0 3)), (95, .bool (decide ((bt a0 3) < 128)))]) (by kernel_rfl) ?_
           by_cases hb25 : (decide ((bt a0 3) < 128)) = true
           ·
            rw [if_pos hb25] at h1
            refine oK [5, 10, 11, 12, 95] (S' := [(5, .int .u8 (bt a0 0)), (10, .int .u8 (bt a0 1)), (11, .int .u8 (bt a0 2)), (12, .int .u8 (bt a0 3)), (95, .bool true)]) (by (try simp only [hb25]); kernel_rfl) ?_
            refine oP (r := []) [3, 4, 5] (S' := [(5, .int .u8 (bt a0 0)), (10, .int .u8 (bt a0 1)), (11, .int .u8 (bt a0 2)), (12, .int .u8 (bt a0 3)), (98, .bool true)]) (by kernel_rfl) ?_
            refine oD ?_
            have e := someS h1
            subst e
            exact Qn.thenJ fun a ha => ⟨true, rfl, ha.keep [5, 10, 11, 12, 98] (by kernel_rfl), hI⟩
           ·
            rw [if_neg hb25] at h1
            have hb25 : (decide ((bt a0 3) < 128)) = false := by simpa using hb25
            refine oK [5, 10, 11, 12, 95] (S' := [(5, .int .u8 (bt a0 0)), (10, .int .u8 (bt a0 1)), (11, .int .u8 (bt a0 2)), (12, .int .u8 (bt a0 3)), (95, .bool false)]) (by (try simp only [hb25]); kernel_rfl) ?_
            refine oP (r := []) [3, 4, 5] (S' := [(5, .int .u8 (bt a0 0)), (10, .int .u8 (bt a0 1)), (11, .int .u8 (bt a0 2)), (12, .int .u8 (bt a0 3)), (98, .bool (decide ((191 : Int) < (bt a0 3))))]) (by kernel_rfl) ?_
            refine oD ?_
            have e := someS h1
            subst e
            exact Qn.thenJ fun a ha => ⟨decide ((191 : Int) < (bt a0 3)), rfl, ha.keep [5, 10, 11, 12, 98] (by kernel_rfl), hI⟩
          ·
           rintro a w ⟨x24, rfl, ha, hI⟩
           try dsimp only at h0
           refine CodT.of ?_ ha
           by_cases hb26 : x24 = true
           ·
            rw [if_pos hb26] at h0
            refine CodT.yes' (b := x24) (by kernel_rfl) hb26 ?_
            refine cQ ?_
            refine cR [0, 1] (by kernel_rfl) ?_
            refine oP (r := []) [0, 1] (S' := [(2, .int .i32 65533), (3, iv 1)]) (by kernel_rfl) ?_
            refine oD ?_
            refine qT ?_
            refine CodT.ret ?_
            refine Qn.ret_then ?_
            have e := someS h0
            subst e
            refine qK [2, 3] (S' := [(2, .int .i32 65533), (3, iv 1)]) (by kernel_rfl) ?_
            exact post_ret (v := .tuple #[.int .i32 65533, iv 1]) (fun a ha => RunRes.run (vs := [.int .i32 65533, iv 1]) (.tmp (t := 2) (by kernel_rfl) (.tmp (t := 3) (by kernel_rfl) .nil)) ha (by kernel_rfl)) ⟨rfl, hI⟩
           ·
            rw [if_neg hb26] at h0
            refine CodT.no' (b := x24) (by kernel_rfl) (by simpa using hb26) ?_
            refine CodT.skip ?_
            refine qT ?_
            refine cQ ?_
            refine cR [0, 1, 2, 3, 4, 5, 6, 7, 8, 9, 10, 11, 12, 13, 14, 15, 16, 17, 18, 19] (by kernel_rfl) ?_
            refine oP (r := []) [0, 1, 2, 3, 4, 5, 6, 7, 8, 9, 10, 11, 12, 13, 14, 15, 16, 17, 18, 19] (S' := [(2, .int .i32 (bOr .i32 (bOr .i32 (bOr .i32 (bShl .i32 (wi32 (bAnd .u8 (bt a0 0) 7)) 18) (bShl .i32 (wi32 (bAnd .u8 (bt a0 1) 63)) 12)) (bShl .i32 (wi32 (bAnd .u8 (bt a0 2) 63)) 6)) (wi32 (bAnd .u8 (bt a0 3) 63)))), (3, iv 4)]) (by kernel_rfl) ?_
            refine oD ?_
            refine qT ?_
            refine CodT.ret ?_
            have e := someS h0
            subst e
            refine qK [2, 3] (S' := [(2, .int .i32 (bOr .i32 (bOr .i32 (bOr .i32 (bShl .i32 (wi32 (bAnd .u8 (bt a0 0) 7)) 18) (bShl .i32 (wi32 (bAnd .u8 (bt a0 1) 63)) 12)) (bShl .i32 (wi32 (bAnd .u8 (bt a0 2) 63)) 6)) (wi32 (bAnd .u8 (bt a0 3) 63)))), (3, iv 4)]) (by kernel_rfl) ?_
            exact post_ret (v := .tuple #[.int .i32 (bOr .i32 (bOr .i32 (bOr .i32 (bShl .i32 (wi32 (bAnd .u8 (bt a0 0) 7)) 18) (bShl .i32 (wi32 (bAnd .u8 (bt a0 1) 63)) 12)) (bShl .i32 (wi32 (bAnd .u8 (bt a0 2) 63)) 6)) (wi32 (bAnd .u8 (bt a0 3) 63))), iv 4]) (fun a ha => RunRes.run (vs := [.int .i32 (bOr .i32 (bOr .i32 (bOr .i32 (bShl .i32 (wi32 (bAnd .u8 (bt a0 0) 7)) 18) (bShl .i32 (wi32 (bAnd .u8 (bt a0 1) 63)) 12)) (bShl .i32 (wi32 (bAnd .u8 (bt a0 2) 63)) 6)) (wi32 (bAnd .u8 (bt a0 3) 63))), iv 4]) (.tmp (t := 2) (by kernel_rfl) (.tmp (t := 3) (by kernel_rfl) .nil)) ha (by kernel_rfl)) ⟨rfl, hI⟩
/-- unicode/utf8.DecodeRuneInString -/
theorem c86 (w0 w : World) (Z : Hp) (A : HP) (hI : Inv w0 Z w A) (hT : Tabs Z) (a0 : ByteArray) (r : (Int × Int)) (h0 : utf8_DecodeRuneInString a0 = some r) :
  Calls prog 86 #[.string a0] w (fun e w' => e = .returned (.tuple #[.int .i32 r.1, iv r.2]) ∧ Inv w0 Z w' A) := by
 have e4 := calls_intro (R := (fun e w' => e = .returned (.tuple #[.int .i32 r.1, iv r.2]) ∧ Inv w0 Z w' A)) (w := w) (args := [.string a0]) (fn := Go.Proofs.Tryd.f86) 19 Go.Proofs.Tryd.func86 (by rfl) Go.Proofs.Tryd.ntmps86 (by kernel_rfl)
 refine e4 ?_
 clear e4
 unfold utf8_DecodeRuneInString at h0
 refine cQ ?_
 refine cR [0, 1] (by kernel_rfl) ?_
 refine oP (r := []) [0, 1] (S' := [(0, .string a0)]) (by kernel_rfl) ?_
 refine oD ?_
 refine qT ?_
 refine cQ ?_
 obtain ⟨r1, h1, h0⟩ := bindS h0
 refine CodT.meet (fun a w => ∃ (x1 : Bool), x1 = r1 ∧ Fr 19 [(0, .string a0), (10, .bool x1)] a ∧ Inv w0 Z w A) ?_ ?_
 ·
  refine cR [0, 1, 2, 3, 4, 5, 6] (by kernel_rfl) ?_
  refine oP (r := [3, 4, 5, 6]) [0, 1, 2] (S' := [(0, .string a0), (6, .bool (!(seq a0 (⟨#[]⟩ : ByteArray))))]) (by kernel_rfl) ?_
  by_cases hb2 : (!(seq a0 (⟨#[]⟩ : ByteArray))) = true
  ·
   rw [if_pos hb2] at h1
   refine oK [0, 6] (S' := [(0, .string a0), (6, .bool true)]) (by (try simp only [hb2]); kernel_rfl) ?_
   refine oP (r := [4, 5, 6]) [3] (S' := [(0, .string a0), (6, .bool true), (7, .string a0)]) (by kernel_rfl) ?_
   obtain ⟨hg3, h1⟩ := guardS h1
   refine oC (Does.yi (Yl.indexStr (d := 8) (T := 9) (k := .i64) (j := 0) (s := a0) (by kernel_rfl) Go.Proofs.Tryd.underlying9 hg3.1 hg3.2) hI ?_)
   refine oP (r := []) [5, 6] (S' := [(0, .string a0), (10, .bool (decide ((bt a0 0) < 128)))]) (by kernel_rfl) ?_
   refine oD ?_
   have e := someS h1
   subst e
   exact Qn.thenJ fun a ha => ⟨decide ((bt a0 0) < 128), rfl, ha.keep [0, 10] (by kernel_rfl), hI⟩
  ·
   rw [if_neg hb2] at h1
   have hb2 : (!(seq a0 (⟨#[]⟩ : ByteArray))) = false := by simpa using hb2
   refine oK [0, 6] (S' := [(0, .string a0), (6, .bool false)]) (by (try simp only [hb2]); kernel_rfl) ?_
   refine oP (r := []) [3, 4, 5, 6] (S' := [(0, .string a0), (10, .bool false)]) (by kernel_rfl) ?_
   refine oD ?_
   have e := someS h1
   subst e
   exact Qn.thenJ fun a ha => ⟨false, rfl, ha.keep [0, 10] (by kernel_rfl), hI⟩
 ·
  rintro a w ⟨x1, rfl, ha, hI⟩
  try dsimp only at h0
  refine CodT.of ?_ ha
  by_cases hb4 : x1 = true
  ·
   rw [if_pos hb4] at h0
   refine CodT.yes' (b := x1) (by kernel_rfl) hb4 ?_
   refine cQ ?_
   refine cR [0, 1, 2, 3, 4] (by kernel_rfl) ?_
   refine oP (r := [1, 2, 3, 4]) [0] (S' := [(11, .string a0)]) (by kernel_rfl) ?_
   obtain ⟨hg5, h0⟩ := guardS h0
   refine oC (Does.yi (Yl.indexStr (d := 12) (T := 9) (k := .i64) (j := 0) (s := a0) (by kernel_rfl) Go.Proofs.Tryd.underlying9 hg5.1 hg5.2) hI ?_)
   refine oP (r := []) [2, 3, 4] (S' := [(2, .int .i32 (wi32 (bt a0 0))), (3, iv 1)]) (by kernel_rfl) ?_
   refine oD ?_
   refine qT ?_
   refine CodT.ret ?_
   refine Qn.ret_then ?_
   have e := someS h0
   subst e
   refine qK [2, 3] (S' := [(2, .int .i32 (wi32 (bt a0 0))), (3, iv 1)]) (by kernel_rfl) ?_
   exact post_ret (v := .tuple #[.int .i32 (wi32 (bt a0 0)), iv 1]) (fun a ha => RunRes.run (vs := [.int .i32 (wi32 (bt a0 0)), iv 1]) (.tmp (t := 2) (by kernel_rfl) (.tmp (t := 3) (by kernel_rfl) .nil)) ha (by kernel_rfl)) ⟨rfl, hI⟩
  ·
   rw [if_neg hb4] at h0
   refine CodT.no' (b := x1) (by kernel_rfl) (by simpa using hb4) ?_
   refine cR [0, 1, 2, 3, 4, 5, 6] (by kernel_rfl) ?_
   refine oP (r := [1, 2, 3, 4, 5, 6]) [0] (S' := [(15, .string a0)]) (by kernel_rfl) ?_
   obtain ⟨⟨y7, y8⟩, hc6, h0⟩ := bindS h0
   try dsimp only at h0
   refine oC (Does.call (d := some 16) (n := 89) (vs := [.string a0]) (by kernel_rfl) en89 (c89 w0 w _ _ hI hT a0 _ hc6) ?_)
   rintro e w ⟨rfl, hI⟩
   refine ⟨_, rfl, ?_⟩
   refine oP (r := []) [2, 3, 4, 5, 6] (S' := [(2, .int .i32 y7), (3, iv y8)]) (by kernel_rfl) ?_
   refine oD ?_
   refine qT ?_
   refine CodT.ret ?_
   have e := someS h0
   subst e
   refine qK [2, 3] (S' := [(2, .int .i32 y7), (3, iv y8)]) (by kernel_rfl) ?_
   exact post_ret (v := .tuple #[.int .i32 y7, iv y8]) (fun a ha => RunRes.run (vs := [.int .i32 y7, iv y8]) (.tmp (t := 2) (by kernel_rfl) (.tmp (t := 3) (by kernel_rfl) .nil)) ha (by kernel_rfl)) ⟨rfl, hI⟩
/-- cenotaph/name.broken -/
theorem c80 (w0 w : World) (Z : Hp) (A : HP) (hI : Inv w0 Z w A) (hT : Tabs Z) (a0 : ByteArray) (a1 : Int) (a2 : Int) (r : Bool) (h0 : name_broken a0 a1 a2 = some r) :
  Calls prog 80 #[.string a0, iv a1, .int .i32 a2] w (fun e w' => e = .returned (.bool r) ∧ Inv w0 Z w' A) := by
 have e4 := calls_intro (R := (fun e w' => e = .returned (.bool r) ∧ Inv w0 Z w' A)) (w := w) (args := [.string a0, iv a1, .int .i32 a2]) (fn := Go.Proofs.Tryd.f80) 20 Go.Proofs.Tryd.func80 (by rfl) Go.Proofs.Tryd.ntmps80 (by kernel_rfl)
 refine e4 ?_
 clear e4
 unfold name_broken at h0
 refine cQ ?_
 refine cR [0] (by kernel_rfl) ?_
 refine oP (r := []) [0] (S' := [(0, .string a0), (1, iv a1), (2, .int .i32 a2)]) (by kernel_rfl) ?_
 refine oD ?_
 refine qT ?_
 refine cQ ?_
 refine cQ ?_
 refine cR [0, 1] (by kernel_rfl) ?_
 refine oP (r := []) [0, 1] (S' := [(0, .string a0), (1, iv a1), (10, .bool (a2 != 65533))]) (by kernel_rfl) ?_
 refine oD ?_
 refine qT ?_
 by_cases hb1 : (a2 != 65533) = true
 ·
  rw [if_pos hb1] at h0
  refine CodT.yes' (b := a2 != 65533) (by kernel_rfl) hb1 ?_
  refine cQ ?_
  refine cR [0] (by kernel_rfl) ?_
  refine oP (r := []) [0] (S' := [(6, .bool false)]) (by kernel_rfl) ?_
  refine oD ?_
  refine qT ?_
  refine CodT.ret ?_
  refine Qn.ret_then ?_
  have e := someS h0
  subst e
  refine qK [6] (S' := [(6, .bool false)]) (by kernel_rfl) ?_
  exact post_ret (v := .bool false) (fun a ha => RunRes.run (vs := [.bool false]) (.tmp (t := 6) (by kernel_rfl) .nil) ha (by kernel_rfl)) ⟨rfl, hI⟩
 ·
  rw [if_neg hb1] at h0
  refine CodT.no' (b := a2 != 65533) (by kernel_rfl) (by simpa using hb1) ?_
  refine CodT.skip ?_
  refine qT ?_
  refine cQ ?_
  refine cR [0, 1, 2, 3, 4, 5, 6, 7, 8] (by kernel_rfl) ?_
  refine oP (r := [2, 3, 4, 5, 6, 7, 8]) [0, 1] (S' := [(12, .string a0), (13, iv a1)]) (by kernel_rfl) ?_
  obtain ⟨hg2, h0⟩ := guardS h0
  refine oC (Does.yi (Yl.sliceStr10 (d := 14) (T := 9) (s := a0) (lo := a1) (by kernel_rfl) Go.Proofs.Tryd.underlying9 hg2) hI ?_)
  obtain ⟨⟨y4, y5⟩, hc3, h0⟩ := bindS h0
  try dsimp only at h0
  refine oC (Does.call (d := some 15) (n := 86) (vs := [.string (sx a0 a1 (a0.size : Int))]) (by kernel_rfl) en86 (c86 w0 w _ _ hI hT (sx a0 a1 (a0.size : Int)) _ hc3) ?_)
  rintro e w ⟨rfl, hI⟩
  refine ⟨_, rfl, ?_⟩
  refine oP (r := []) [4, 5, 6, 7, 8] (S' := [(8, iv y5)]) (by kernel_rfl) ?_
  refine oD ?_
  refine qT ?_
  refine cQ ?_
  refine cR [0, 1, 2] (by kernel_rfl) ?_
  refine oP (r := []) [0, 1, 2] (S' := [(6, .bool (decide (y5 < 2)))]) (by kernel_rfl) ?_
  refine oD ?_
  refine qT ?_
  refine CodT.ret ?_
  have e := someS h0
  subst e
  refine qK [6] (S' := [(6, .bool (decide (y5 < 2)))]) (by kernel_rfl) ?_
  exact post_ret (v := .bool (decide (y5 < 2))) (fun a ha => RunRes.run (vs := [.bool (decide (y5 < 2))]) (.tmp (t := 6) (by kernel_rfl) .nil) ha (by kernel_rfl)) ⟨rfl, hI⟩
/-- cenotaph/name.runes -/
theorem c75 (w0 w : World) (Z : Hp) (A : HP) (hI : Inv w0 Z w A) (hT : Tabs Z) (a0 : ByteArray) (r : (List Int)) (h0 : name_runes a0 = some r) :
  Calls prog 75 #[.string a0] w (fun e w' => ∃ (A1 : Option Addr) (c1 : Nat), e = .returned (.slice A1 r.length c1) ∧ Inv w0 Z w' (star (ownS 21 (cI .i32) 1 A1 c1 r) A)) := by
 have e4 := calls_intro (R := (fun e w' => ∃ (A1 : Option Addr) (c1 : Nat), e = .returned (.slice A1 r.length c1) ∧ Inv w0 Z w' (star (ownS 21 (cI .i32) 1 A1 c1 r) A))) (w := w) (args := [.string a0]) (fn := Go.Proofs.Tryd.f75) 26 Go.Proofs.Tryd.func75 (by rfl) Go.Proofs.Tryd.ntmps75 (by kernel_rfl)
 refine e4 ?_
 clear e4
 unfold name_runes at h0
 refine cQ ?_
 refine cR [0] (by kernel_rfl) ?_
 refine oP (r := []) [0] (S' := [(0, .string a0)]) (by kernel_rfl) ?_
 refine oD ?_
 refine qT ?_
 refine cQ ?_
 refine cR [0] (by kernel_rfl) ?_
 refine oP (r := []) [0] (S' := [(0, .string a0), (3, .slice none 0 0)]) (by kernel_rfl) ?_
 refine oD ?_
 refine qT ?_
 refine cQ ?_
 refine cQ ?_
 refine cR [0, 1] (by kernel_rfl) ?_
 refine oP (r := [1]) [0] (S' := [(0, .string a0), (3, .slice none 0 0), (6, .string a0)]) (by kernel_rfl) ?_
 refine oC (Does.rangeStr (d := 7) (T := 9) (s := a0) (by kernel_rfl) Go.Proofs.Tryd.underlying9 hI ?_)
 intro b1 w hI
 refine oD ?_
 refine qT ?_
 obtain ⟨r1, h1, h0⟩ := bindS h0
 refine CodT.meet1 (fun a w => ∃ (x2 : (List Int)) (A3 : Option Addr) (cp4 : Nat), x2 = r1 ∧ Fr 26 [(3, .slice A3 x2.length cp4)] a ∧ Inv w0 Z w (star (ownS 21 (cI .i32) 1 A3 cp4 x2) A)) ?_ ?_
 ·
  refine CodT.block ?_
  have hI := ownS_nil (α := Int) hI 21 (cI .i32) 1
  refine (fun a ha => wp_loopN (fun k a w => ∃ (x5 : (List Int)) (x8 : Nat) (A6 : Option Addr) (cp7 : Nat), name_runes.l0 a0 k x5 x8 = some r1 ∧ Fr 26 [(0, .string a0), (3, .slice A6 x5.length cp7), (7, pb b1)] a ∧ Inv w0 Z w (star (ownS 21 (cI .i32) 1 A6 cp7 x5) (star (pt b1 (.stringIter a0 x8)) A))) ?_ FU a w ⟨([] : List Int), 0, none, 0, h1, ha.keep [0, 3, 7] (by kernel_rfl), hI⟩)
  clear h1 hI
  rintro k a w ⟨x5, x8, A6, cp7, h1, ha, hI⟩
  rcases k with _ | k
  ·
   cases h1
  simp only [name_runes.l0] at h1
  refine CodT.of ?_ ha
  refine cQ ?_
  refine cR [0, 1] (by kernel_rfl) ?_
  have hI := hI.mono (pick2 _ _ _)
  by_cases hb9 : x8 < a0.size
  ·
   rw [if_pos hb9] at h1
   refine oC (Does.nextStr (d := 8) (b := b1) (pos := x8) (s := a0) (by kernel_rfl) hI hb9 ?_)
   intro w hI
   refine oP (r := []) [1] (S' := [(0, .string a0), (3, .slice A6 x5.length cp7), (7, pb b1), (8, .tuple #[.bool true, iv (x8 : Int), .int .i32 (runeAt a0 x8)]), (9, .bool true)]) (by kernel_rfl) ?_
   refine oD ?_
   refine qT ?_
   refine cQ ?_
   refine CodT.yes (by kernel_rfl) ?_
   refine CodT.skip ?_
   refine qT ?_
   refine CodT.block ?_
   refine cQ ?_
   refine cR [0, 1, 2, 3] (by kernel_rfl) ?_
   refine oP (r := []) [0, 1, 2, 3] (S' := [(0, .string a0), (3, .slice A6 x5.length cp7), (4, iv (x8 : Int)), (5, .int .i32 (runeAt a0 x8)), (7, pb b1)]) (by kernel_rfl) ?_
   refine oD ?_
   refine qT ?_
   obtain ⟨r2, h2, h1⟩ := bindS h1
   refine CodT.meet (fun a w => ∃ (x10 : Int), x10 = r2 ∧ Fr 26 [(0, .string a0), (3, .slice A6 x5.length cp7), (5, .int .i32 x10), (7, pb b1)] a ∧ Inv w0 Z w (star (pt b1 (.stringIter a0 (x8 + runeW a0 x8))) (star (ownS 21 (cI .i32) 1 A6 cp7 x5) A))) ?_ ?_
   ·
    refine cQ ?_
    refine cR [0, 1, 2, 3] (by kernel_rfl) ?_
    refine oP (r := [3]) [0, 1, 2] (S' := [(0, .string a0), (3, .slice A6 x5.length cp7), (4, iv (x8 : Int)), (5, .int .i32 (runeAt a0 x8)), (7, pb b1), (12, .string a0), (13, iv (x8 : Int)), (14, .int .i32 (runeAt a0 x8))]) (by kernel_rfl) ?_
    obtain ⟨y12, hc11, h2⟩ := bindS h2
    try dsimp only at h2
    refine oC (Does.call (d := some 15) (n := 80) (vs := [.string a0, iv (x8 : Int), .int .i32 (runeAt a0 x8)]) (by kernel_rfl) en80 (c80 w0 w _ _ hI hT a0 (x8 : Int) (runeAt a0 x8) _ hc11) ?_)
    rintro e w ⟨rfl, hI⟩
    refine ⟨_, rfl, ?_⟩
    refine oD ?_
    refine qT ?_
    by_cases hb13 : y12 = true
    ·
     rw [if_pos hb13] at h2
     refine CodT.yes' (b := y12) (by kernel_rfl) hb13 ?_
     refine cR [0, 1, 2, 3, 4, 5] (by kernel_rfl) ?_
     refine oP (r := [2, 3, 4, 5]) [0, 1] (S' := [(0, .string a0), (3, .slice A6 x5.length cp7), (7, pb b1), (16, .string a0), (17, iv (x8 : Int))]) (by kernel_rfl) ?_
     obtain ⟨hg14, h2⟩ := guardS h2
     refine oC (Does.yi (Yl.indexStr (d := 18) (T := 9) (k := .i64) (j := (x8 : Int)) (s := a0) (by kernel_rfl) Go.Proofs.Tryd.underlying9 hg14.1 hg14.2) hI ?_)
     refine oP (r := []) [3, 4, 5] (S' := [(0, .string a0), (3, .slice A6 x5.length cp7), (5, .int .i32 (wi32 (1114112 + (wi32 (bt a0 (x8 : Int)))))), (7, pb b1)]) (by kernel_rfl) ?_
     refine oD ?_
     have e := someS h2
     subst e
     exact Qn.thenJ fun a ha => ⟨wi32 (1114112 + (wi32 (bt a0 (x8 : Int)))), rfl, ha.keep [0, 3, 5, 7] (by kernel_rfl), hI⟩
    ·
     rw [if_neg hb13] at h2
     refine CodT.no' (b := y12) (by kernel_rfl) (by simpa using hb13) ?_
     refine CodT.skip ?_
     have e := someS h2
     subst e
     exact Qn.thenJ fun a ha => ⟨runeAt a0 x8, rfl, ha.keep [0, 3, 5, 7] (by kernel_rfl), hI⟩
   ·
    rintro a w ⟨x10, rfl, ha, hI⟩
    try dsimp only at h1
    refine CodT.of ?_ ha
    refine cR [0, 1, 2, 3, 4] (by kernel_rfl) ?_
    refine oP (r := [2, 3, 4]) [0, 1] (S' := [(0, .string a0), (7, pb b1), (21, .slice A6 x5.length cp7), (22, .int .i32 x10)]) (by kernel_rfl) ?_
    refine oC (Does.buildSlice (en := (cI .i32)) (d := 23) (n := 1) (T := 97) (ps := [(0, .int .i32 x10)]) ([x10] : List Int) (by kernel_rfl) Go.Proofs.Tryd.underlying97 ty21 (by kernel_rfl) (by kernel_rfl) (by kernel_rfl) (by kernel_rfl) (len_all (fun _ => rfl)) hI ?_)
    intro b15 w hI
    obtain ⟨hg16, h1⟩ := guardS h1
    have hI := hI.mono (pick3 _ _ _ _)
    refine oC (Does.append (d := 24) (t := 97) (tx := 97) (ty := 97) (ys := x5) (zs := ([x10] : List Int)) (x := .slice (some ⟨b15, 0, none⟩) (([x10] : List Int).length) 1) (by kernel_rfl) Go.Proofs.Tryd.underlying97 ty21 (by kernel_rfl) hI (src_own Go.Proofs.Tryd.underlying97 (hI.mono (pick2 _ _ _)) (one_flat _ (fun _ => rfl))) (ownS_facts (hI.mono (pick2 _ _ _))).2.2 (by unfold LIM at hg16; omega) hg16 ?_)
    intro A17 cp18 w hI
    refine oP (r := []) [4] (S' := [(0, .string a0), (3, .slice A17 ((x5 ++ ([x10] : List Int)).length) cp18), (7, pb b1)]) (by kernel_rfl) ?_
    refine oD ?_
    refine Qn.block_normal ?_
    have hI := hI.mono (pick2 _ _ _)
    have hI := hI.drop
    exact Qn.thenJ fun a ha => ⟨k, Nat.lt_succ_self k, x5 ++ ([x10] : List Int), x8 + runeW a0 x8, A17, cp18, h1, ha.keep [0, 3, 7] (by kernel_rfl), hI⟩
  ·
   rw [if_neg hb9] at h1
   refine oC (Does.nextEnd (d := 8) (b := b1) (pos := x8) (s := a0) (by kernel_rfl) hI hb9 ?_)
   refine oP (r := []) [1] (S' := [(0, .string a0), (3, .slice A6 x5.length cp7), (7, pb b1), (8, .tuple #[.bool false]), (9, .bool false)]) (by kernel_rfl) ?_
   refine oD ?_
   refine qT ?_
   refine cQ ?_
   refine CodT.no (by kernel_rfl) ?_
   refine CodT.exit ?_
   refine Qn.exit_then ?_
   refine Qn.exit_then ?_
   refine Qn.block ?_
   have hI := hI.drop
   have e := someS h1
   subst e
   exact Qn.thenJ fun a ha => ⟨x5, A6, cp7, rfl, ha.keep [3] (by kernel_rfl), hI⟩
 ·
  rintro a w ⟨x2, A3, cp4, rfl, ha, hI⟩
  try dsimp only at h0
  refine Qn.of ?_ ha
  refine qT ?_
  refine cQ ?_
  refine cR [0, 1] (by kernel_rfl) ?_
  refine oP (r := []) [0, 1] (S' := [(2, .slice A3 x2.length cp4)]) (by kernel_rfl) ?_
  refine oD ?_
  refine qT ?_
  refine CodT.ret ?_
  have e := someS h0
  subst e
  refine qK [2] (S' := [(2, .slice A3 x2.length cp4)]) (by kernel_rfl) ?_
  exact post_ret (v := .slice A3 x2.length cp4) (fun a ha => RunRes.run (vs := [.slice A3 x2.length cp4]) (.tmp (t := 2) (by kernel_rfl) .nil) ha (by kernel_rfl)) ⟨A3, cp4, rfl, hI⟩
/-- cenotaph/name.Less -/
theorem c60 (w0 w : World) (Z : Hp) (A : HP) (hI : Inv w0 Z w A) (hT : Tabs Z) (a0 : ByteArray) (a1 : ByteArray) (r : Bool) (h0 : name_Less a0 a1 = some r) :
  Calls prog 60 #[.string a0, .string a1] w (fun e w' => e = .returned (.bool r) ∧ Inv w0 Z w' A) := by
 have e4 := calls_intro (R := (fun e w' => e = .returned (.bool r) ∧ Inv w0 Z w' A)) (w := w) (args := [.string a0, .string a1]) (fn := Go.Proofs.Tryd.f60) 42 Go.Proofs.Tryd.func60 (by rfl) Go.Proofs.Tryd.ntmps60 (by kernel_rfl)
 refine e4 ?_
 clear e4
 unfold name_Less at h0
 refine cQ ?_
 refine cR [0] (by kernel_rfl) ?_
 refine oP (r := []) [0] (S' := [(0, .string a0), (1, .string a1)]) (by kernel_rfl) ?_
 refine oD ?_
 refine qT ?_
 refine cQ ?_
 refine cR [0, 1, 2, 3, 4, 5] (by kernel_rfl) ?_
 refine oP (r := [1, 2, 3, 4, 5]) [0] (S' := [(1, .string a1), (9, .string a0)]) (by kernel_rfl) ?_
 obtain ⟨y2, hc1, h0⟩ := bindS h0
 try dsimp only at h0
 refine oC (Does.call (d := some 10) (n := 75) (vs := [.string a0]) (by kernel_rfl) en75 (c75 w0 w _ _ hI hT a0 _ hc1) ?_)
 rintro e w ⟨A3, cp4, rfl, hI⟩
 refine ⟨_, rfl, ?_⟩
 refine oP (r := [3, 4, 5]) [2] (S' := [(10, .slice A3 y2.length cp4), (11, .string a1)]) (by kernel_rfl) ?_
 obtain ⟨y6, hc5, h0⟩ := bindS h0
 try dsimp only at h0
 refine oC (Does.call (d := some 12) (n := 75) (vs := [.string a1]) (by kernel_rfl) en75 (c75 w0 w _ _ hI hT a1 _ hc5) ?_)
 rintro e w ⟨A7, cp8, rfl, hI⟩
 refine ⟨_, rfl, ?_⟩
 refine oP (r := []) [4, 5] (S' := [(5, .slice A3 y2.length cp4), (6, .slice A7 y6.length cp8)]) (by kernel_rfl) ?_
 refine oD ?_
 refine qT ?_
 refine cQ ?_
 refine cQ ?_
 refine cR [0, 1, 2] (by kernel_rfl) ?_
 refine oP (r := []) [0, 1, 2] (S' := [(5, .slice A3 y2.length cp4), (6, .slice A7 y6.length cp8), (13, .slice A3 y2.length cp4), (14, iv (y2.length : Int)), (15, iv 0)]) (by kernel_rfl) ?_
 refine oD ?_
 refine qT ?_
 obtain ⟨r1, h1, h0⟩ := bindS h0
 refine CodT.meet1 (fun a w => .inr () = r1 ∧ Fr 42 [(5, .slice A3 y2.length cp4), (6, .slice A7 y6.length cp8)] a ∧ Inv w0 Z w (star (ownS 21 (cI .i32) 1 A7 cp8 y6) (star (ownS 21 (cI .i32) 1 A3 cp4 y2) A))) ?_ ?_
 ·
  refine CodT.block ?_
  refine (fun a ha => wp_loopN (fun k a w => ∃ (x9 : Int), name_Less.l0 y2 y6 k x9 = some r1 ∧ Fr 42 [(5, .slice A3 y2.length cp4), (6, .slice A7 y6.length cp8), (13, .slice A3 y2.length cp4), (14, iv (y2.length : Int)), (15, iv x9)] a ∧ Inv w0 Z w (star (ownS 21 (cI .i32) 1 A7 cp8 y6) (star (ownS 21 (cI .i32) 1 A3 cp4 y2) A))) ?_ FU a w ⟨0, h1, ha.keep [5, 6, 13, 14, 15] (by kernel_rfl), hI⟩)
  clear h1 hI
  rintro k a w ⟨x9, h1, ha, hI⟩
  rcases k with _ | k
  ·
   cases h1
  simp only [name_Less.l0] at h1
  refine CodT.of ?_ ha
  refine cQ ?_
  refine cR [0] (by kernel_rfl) ?_
  refine oP (r := []) [0] (S' := [(5, .slice A3 y2.length cp4), (6, .slice A7 y6.length cp8), (13, .slice A3 y2.length cp4), (14, iv (y2.length : Int)), (15, iv x9), (16, .bool (decide (x9 < (y2.length : Int))))]) (by kernel_rfl) ?_
  refine oD ?_
  refine qT ?_
  refine cQ ?_
  by_cases hb10 : (decide (x9 < (y2.length : Int))) = true
  ·
   rw [if_pos hb10] at h1
   refine CodT.yes' (b := decide (x9 < (y2.length : Int))) (by kernel_rfl) hb10 ?_
   refine CodT.skip ?_
   refine qT ?_
   refine cQ ?_
   refine CodT.block ?_
   refine cQ ?_
   refine cR [0, 1, 2, 3, 4] (by kernel_rfl) ?_
   refine oP (r := [1, 2, 3, 4]) [0] (S' := [(5, .slice A3 y2.length cp4), (6, .slice A7 y6.length cp8), (13, .slice A3 y2.length cp4), (14, iv (y2.length : Int)), (15, iv x9), (17, iv x9)]) (by kernel_rfl) ?_
   obtain ⟨hg11, h1⟩ := guardS h1
   obtain ⟨g12, hA13, hr14, hl15⟩ := ownS_get (hI.mono (pick2 _ _ _)) hg11.1 hg11.2
   refine oC (Does.yi (Yl.indexSlice (d := 18) (T := 97) (cc := cp4) (k := .i64) (j := x9) (g := g12) (o := 0) (by kernel_rfl) Go.Proofs.Tryd.underlying97 ty21 hA13 hg11.1 hg11.2) hI ?_)
   refine oC (Does.yi (Yl.load (d := 19) (T := 21) (v := .int .i32 (gt y2 x9)) (by kernel_rfl) (ldR ty21 (v := .int .i32 (gt y2 x9)) 0 (fun w hC => hr14 w0 w _ (hC.mono (pick2 _ _ _))) (by kernel_rfl))) hI ?_)
   refine oP (r := []) [3, 4] (S' := [(5, .slice A3 y2.length cp4), (6, .slice A7 y6.length cp8), (7, iv x9), (8, .int .i32 (gt y2 x9)), (13, .slice A3 y2.length cp4), (14, iv (y2.length : Int)), (15, iv x9)]) (by kernel_rfl) ?_
   refine oD ?_
   refine qT ?_
   refine cQ ?_
   refine cQ ?_
   refine cR [0, 1, 2, 3] (by kernel_rfl) ?_
   refine oP (r := []) [0, 1, 2, 3] (S' := [(5, .slice A3 y2.length cp4), (6, .slice A7 y6.length cp8), (7, iv x9), (8, .int .i32 (gt y2 x9)), (13, .slice A3 y2.length cp4), (14, iv (y2.length : Int)), (15, iv x9), (23, .bool (decide (x9 ≥ (y6.length : Int))))]) (by kernel_rfl) ?_
   refine oD ?_
   refine qT ?_
   by_cases hb16 : (decide (x9 ≥ (y6.length : Int))) = true
   ·
    rw [if_pos hb16] at h1
    refine CodT.yes' (b := decide (x9 ≥ (y6.length : Int))) (by kernel_rfl) hb16 ?_
    refine cQ ?_
    refine cR [0] (by kernel_rfl) ?_
    refine oP (r := []) [0] (S' := [(4, .bool false)]) (by kernel_rfl) ?_
    refine oD ?_
    refine qT ?_
    refine CodT.ret ?_
    refine Qn.ret_then ?_
    refine Qn.block_ret ?_
    refine Qn.ret_then ?_
    refine Qn.ret_then ?_
    refine Qn.block_ret ?_
    refine Qn.ret_then ?_
    refine Qn.ret_then ?_
    have hI := hI.drop
    have hI := hI.drop
    have e := someS h1
    subst e
    try dsimp only at h0
    have e := someS h0
    subst e
    refine qK [4] (S' := [(4, .bool false)]) (by kernel_rfl) ?_
    exact post_ret (v := .bool false) (fun a ha => RunRes.run (vs := [.bool false]) (.tmp (t := 4) (by kernel_rfl) .nil) ha (by kernel_rfl)) ⟨rfl, hI⟩
   ·
    rw [if_neg hb16] at h1
    refine CodT.no' (b := decide (x9 ≥ (y6.length : Int))) (by kernel_rfl) (by simpa using hb16) ?_
    refine CodT.skip ?_
    refine qT ?_
    refine cQ ?_
    refine cR [0, 1, 2, 3, 4, 5] (by kernel_rfl) ?_
    refine oP (r := [3, 4, 5]) [0, 1, 2] (S' := [(5, .slice A3 y2.length cp4), (6, .slice A7 y6.length cp8), (7, iv x9), (8, .int .i32 (gt y2 x9)), (13, .slice A3 y2.length cp4), (14, iv (y2.length : Int)), (15, iv x9), (24, .int .i32 (gt y2 x9)), (25, .slice A7 y6.length cp8), (26, iv x9)]) (by kernel_rfl) ?_
    obtain ⟨hg17, h1⟩ := guardS h1
    obtain ⟨g18, hA19, hr20, hl21⟩ := ownS_get hI hg17.1 hg17.2
    refine oC (Does.yi (Yl.indexSlice (d := 27) (T := 97) (cc := cp8) (k := .i64) (j := x9) (g := g18) (o := 0) (by kernel_rfl) Go.Proofs.Tryd.underlying97 ty21 hA19 hg17.1 hg17.2) hI ?_)
    refine oC (Does.yi (Yl.load (d := 28) (T := 21) (v := .int .i32 (gt y6 x9)) (by kernel_rfl) (ldR ty21 (v := .int .i32 (gt y6 x9)) 0 (fun w hC => hr20 w0 w _ hC) (by kernel_rfl))) hI ?_)
    refine oP (r := []) [5] (S' := [(5, .slice A3 y2.length cp4), (6, .slice A7 y6.length cp8), (7, iv x9), (8, .int .i32 (gt y2 x9)), (13, .slice A3 y2.length cp4), (14, iv (y2.length : Int)), (15, iv x9), (29, .bool ((gt y2 x9) != (gt y6 x9)))]) (by kernel_rfl) ?_
    refine oD ?_
    refine qT ?_
    by_cases hb22 : ((gt y2 x9) != (gt y6 x9)) = true
    ·
     rw [if_pos hb22] at h1
     refine CodT.yes' (b := (gt y2 x9) != (gt y6 x9)) (by kernel_rfl) hb22 ?_
     refine cQ ?_
     refine cR [0, 1, 2, 3, 4, 5, 6] (by kernel_rfl) ?_
     refine oP (r := [3, 4, 5, 6]) [0, 1, 2] (S' := [(30, .int .i32 (gt y2 x9)), (31, .slice A7 y6.length cp8), (32, iv x9)]) (by kernel_rfl) ?_
     obtain ⟨hg23, h1⟩ := guardS h1
     obtain ⟨g24, hA25, hr26, hl27⟩ := ownS_get hI hg23.1 hg23.2
     refine oC (Does.yi (Yl.indexSlice (d := 33) (T := 97) (cc := cp8) (k := .i64) (j := x9) (g := g24) (o := 0) (by kernel_rfl) Go.Proofs.Tryd.underlying97 ty21 hA25 hg23.1 hg23.2) hI ?_)
     refine oC (Does.yi (Yl.load (d := 34) (T := 21) (v := .int .i32 (gt y6 x9)) (by kernel_rfl) (ldR ty21 (v := .int .i32 (gt y6 x9)) 0 (fun w hC => hr26 w0 w _ hC) (by kernel_rfl))) hI ?_)
     refine oP (r := []) [5, 6] (S' := [(4, .bool (decide ((gt y2 x9) < (gt y6 x9))))]) (by kernel_rfl) ?_
     refine oD ?_
     refine qT ?_
     refine CodT.ret ?_
     refine Qn.block_ret ?_
     refine Qn.ret_then ?_
     refine Qn.ret_then ?_
     refine Qn.block_ret ?_
     refine Qn.ret_then ?_
     refine Qn.ret_then ?_
     have hI := hI.drop
     have hI := hI.drop
     have e := someS h1
     subst e
     try dsimp only at h0
     have e := someS h0
     subst e
     refine qK [4] (S' := [(4, .bool (decide ((gt y2 x9) < (gt y6 x9))))]) (by kernel_rfl) ?_
     exact post_ret (v := .bool (decide ((gt y2 x9) < (gt y6 x9)))) (fun a ha => RunRes.run (vs := [.bool (decide ((gt y2 x9) < (gt y6 x9)))]) (.tmp (t := 4) (by kernel_rfl) .nil) ha (by kernel_rfl)) ⟨rfl, hI⟩
    ·
     rw [if_neg hb22] at h1
     refine CodT.no' (b := (gt y2 x9) != (gt y6 x9)) (by kernel_rfl) (by simpa using hb22) ?_
     refine CodT.skip ?_
     refine Qn.block_normal ?_
     refine qT ?_
     refine cR [0, 1] (by kernel_rfl) ?_
     refine oP (r := []) [0, 1] (S' := [(5, .slice A3 y2.length cp4), (6, .slice A7 y6.length cp8), (13, .slice A3 y2.length cp4), (14, iv (y2.length : Int)), (15, iv (wi64 (x9 + 1)))]) (by kernel_rfl) ?_
     refine oD ?_
     exact Qn.thenJ fun a ha => ⟨k, Nat.lt_succ_self k, wi64 (x9 + 1), h1, ha.keep [5, 6, 13, 14, 15] (by kernel_rfl), hI⟩
  ·
   rw [if_neg hb10] at h1
   refine CodT.no' (b := decide (x9 < (y2.length : Int))) (by kernel_rfl) (by simpa using hb10) ?_
   refine CodT.exit ?_
   refine Qn.exit_then ?_
   refine Qn.exit_then ?_
   refine Qn.block ?_
   have e := someS h1
   subst e
   exact Qn.thenJ fun a ha => ⟨rfl, ha.keep [5, 6] (by kernel_rfl), hI⟩
 ·
  rintro a w ⟨rfl, ha, hI⟩
  try dsimp only at h0
  refine Qn.of ?_ ha
  refine qT ?_
  refine cQ ?_
  refine cR [0, 1, 2, 3, 4, 5] (by kernel_rfl) ?_
  refine oP (r := []) [0, 1, 2, 3, 4, 5] (S' := [(4, .bool (decide ((y2.length : Int) < (y6.length : Int))))]) (by kernel_rfl) ?_
  refine oD ?_
  refine qT ?_
  refine CodT.ret ?_
  have hI := hI.drop
  have hI := hI.drop
  have e := someS h0
  subst e
  refine qK [4] (S' := [(4, .bool (decide ((y2.length : Int) < (y6.length : Int))))]) (by kernel_rfl) ?_
  exact post_ret (v := .bool (decide ((y2.length : Int) < (y6.length : Int)))) (fun a ha => RunRes.run (vs := [.bool (decide ((y2.length : Int) < (y6.length : Int)))]) (.tmp (t := 4) (by kernel_rfl) .nil) ha (by kernel_rfl)) ⟨rfl, hI⟩
/-- (cenotaph/rule.label).behind -/
theorem c37 (w0 w : World) (Z : Hp) (A : HP) (hI : Inv w0 Z w A) (hT : Tabs Z) (a0 : ByteArray) (a1 : ByteArray) (r : Bool) (h0 : rule_label_behind a0 a1 = some r) :
  Calls prog 37 #[.string a0, .string a1] w (fun e w' => e = .returned (.bool r) ∧ Inv w0 Z w' A) := by
 have e4 := calls_intro (R := (fun e w' => e = .returned (.bool r) ∧ Inv w0 Z w' A)) (w := w) (args := [.string a0, .string a1]) (fn := Go.Proofs.Tryd.f37) 9 Go.Proofs.Tryd.func37 (by rfl) Go.Proofs.Tryd.ntmps37 (by kernel_rfl)
 refine e4 ?_
 clear e4
 unfold rule_label_behind at h0
 refine cQ ?_
 refine cR [0] (by kernel_rfl) ?_
 refine oP (r := []) [0] (S' := [(0, .string a0), (1, .string a1)]) (by kernel_rfl) ?_
 refine oD ?_
 refine qT ?_
 refine cQ ?_
 refine cR [0, 1, 2, 3, 4] (by kernel_rfl) ?_
 refine oP (r := [2, 3, 4]) [0, 1] (S' := [(5, .string a1), (6, .string a0)]) (by kernel_rfl) ?_
 obtain ⟨y2, hc1, h0⟩ := bindS h0
 try dsimp only at h0
 refine oC (Does.call (d := some 7) (n := 60) (vs := [.string a1, .string a0]) (by kernel_rfl) en60 (c60 w0 w _ _ hI hT a1 a0 _ hc1) ?_)
 rintro e w ⟨rfl, hI⟩
 refine ⟨_, rfl, ?_⟩
 refine oP (r := []) [3, 4] (S' := [(4, .bool (!y2))]) (by kernel_rfl) ?_
 refine oD ?_
 refine qT ?_
 refine CodT.ret ?_
 have e := someS h0
 subst e
 refine qK [4] (S' := [(4, .bool (!y2))]) (by kernel_rfl) ?_
 exact post_ret (v := .bool (!y2)) (fun a ha => RunRes.run (vs := [.bool (!y2)]) (.tmp (t := 4) (by kernel_rfl) .nil) ha (by kernel_rfl)) ⟨rfl, hI⟩
/-- slices.IndexFunc[[]string,string] -/
theorem c36 (w0 w : World) (Z : Hp) (A : HP) (hI : Inv w0 Z w A) (hT : Tabs Z) (A_a0 : Option Addr) (c_a0 : Nat) (a0 : (List ByteArray)) (hr_a0 : RdS Z cS 1 A_a0 c_a0 a0) (a1_f0 : ByteArray) (r : Int) (h0 : slices_IndexFunc_string__rule_label_behind a0 a1_f0 = some r) :
  Calls prog 36 #[.slice A_a0 a0.length c_a0, .func (.func 37) #[.string a1_f0] #[]] w (fun e w' => e = .returned (iv r) ∧ Inv w0 Z w' A) := by
 have e4 := calls_intro (R := (fun e w' => e = .returned (iv r) ∧ Inv w0 Z w' A)) (w := w) (args := [.slice A_a0 a0.length c_a0, .func (.func 37) #[.string a1_f0] #[]]) (fn := Go.Proofs.Tryd.f36) 19 Go.Proofs.Tryd.func36 (by rfl) Go.Proofs.Tryd.ntmps36 (by kernel_rfl)
 refine e4 ?_
 clear e4
 unfold slices_IndexFunc_string__rule_label_behind at h0
 refine cQ ?_
 refine cR [0] (by kernel_rfl) ?_
 refine oP (r := []) [0] (S' := [(0, .slice A_a0 a0.length c_a0), (1, .func (.func 37) #[.string a1_f0] #[])]) (by kernel_rfl) ?_
 refine oD ?_
 refine qT ?_
 refine cQ ?_
 refine cQ ?_
 refine cR [0, 1, 2] (by kernel_rfl) ?_
 refine oP (r := []) [0, 1, 2] (S' := [(0, .slice A_a0 a0.length c_a0), (1, .func (.func 37) #[.string a1_f0] #[]), (7, iv (a0.length : Int)), (8, iv 0)]) (by kernel_rfl) ?_
 refine oD ?_
 refine qT ?_
 obtain ⟨r1, h1, h0⟩ := bindS h0
 refine CodT.meet1 (fun a w => .inr () = r1 ∧ Fr 19 [] a ∧ Inv w0 Z w A) ?_ ?_
 ·
  refine CodT.block ?_
  refine (fun a ha => wp_loopN (fun k a w => ∃ (x1 : Int), slices_IndexFunc_string__rule_label_behind.l0 a0 a1_f0 k x1 = some r1 ∧ Fr 19 [(0, .slice A_a0 a0.length c_a0), (1, .func (.func 37) #[.string a1_f0] #[]), (7, iv (a0.length : Int)), (8, iv x1)] a ∧ Inv w0 Z w A) ?_ FU a w ⟨0, h1, ha.keep [0, 1, 7, 8] (by kernel_rfl), hI⟩)
  clear h1 hI
  rintro k a w ⟨x1, h1, ha, hI⟩
  rcases k with _ | k
  ·
   cases h1
  simp only [slices_IndexFunc_string__rule_label_behind.l0] at h1
  refine CodT.of ?_ ha
  refine cQ ?_
  refine cR [0] (by kernel_rfl) ?_
  refine oP (r := []) [0] (S' := [(0, .slice A_a0 a0.length c_a0), (1, .func (.func 37) #[.string a1_f0] #[]), (7, iv (a0.length : Int)), (8, iv x1), (9, .bool (decide (x1 < (a0.length : Int))))]) (by kernel_rfl) ?_
  refine oD ?_
  refine qT ?_
  refine cQ ?_
  by_cases hb2 : (decide (x1 < (a0.length : Int))) = true
  ·
   rw [if_pos hb2] at h1
   refine CodT.yes' (b := decide (x1 < (a0.length : Int))) (by kernel_rfl) hb2 ?_
   refine CodT.skip ?_
   refine qT ?_
   refine cQ ?_
   refine CodT.block ?_
   refine cQ ?_
   refine cR [0, 1] (by kernel_rfl) ?_
   refine oP (r := []) [0, 1] (S' := [(0, .slice A_a0 a0.length c_a0), (1, .func (.func 37) #[.string a1_f0] #[]), (5, iv x1), (7, iv (a0.length : Int)), (8, iv x1)]) (by kernel_rfl) ?_
   refine oD ?_
   refine qT ?_
   refine cQ ?_
   refine cR [0, 1, 2, 3, 4, 5] (by kernel_rfl) ?_
   refine oP (r := [3, 4, 5]) [0, 1, 2] (S' := [(0, .slice A_a0 a0.length c_a0), (1, .func (.func 37) #[.string a1_f0] #[]), (5, iv x1), (7, iv (a0.length : Int)), (8, iv x1), (11, .func (.func 37) #[.string a1_f0] #[]), (12, .slice A_a0 a0.length c_a0), (13, iv x1)]) (by kernel_rfl) ?_
   obtain ⟨hg3, h1⟩ := guardS h1
   obtain ⟨g4, o8, hA5, hr6, hl7⟩ := RdS.get hr_a0 hg3.1 hg3.2
   refine oC (Does.yi (Yl.indexSlice (d := 14) (T := 25) (cc := c_a0) (k := .i64) (j := x1) (g := g4) (o := o8) (by kernel_rfl) Go.Proofs.Tryd.underlying25 ty9 hA5 hg3.1 hg3.2) hI ?_)
   refine oC (Does.yi (Yl.load (d := 15) (T := 9) (v := .string (gt a0 x1)) (by kernel_rfl) (ldR ty9 (v := .string (gt a0 x1)) 0 (fun w hC => hr6 w0 w _ hC) (by kernel_rfl))) hI ?_)
   obtain ⟨y10, hc9, h1⟩ := bindS h1
   try dsimp only at h1
   refine oC (Does.call (d := some 16) (n := 37) (vs := [.string a1_f0, .string (gt a0 x1)]) (by kernel_rfl) en37 (c37 w0 w _ _ hI hT a1_f0 (gt a0 x1) _ hc9) ?_)
   rintro e w ⟨rfl, hI⟩
   refine ⟨_, rfl, ?_⟩
   refine oD ?_
   refine qT ?_
   by_cases hb11 : y10 = true
   ·
    rw [if_pos hb11] at h1
    refine CodT.yes' (b := y10) (by kernel_rfl) hb11 ?_
    refine cQ ?_
    refine cR [0, 1] (by kernel_rfl) ?_
    refine oP (r := []) [0, 1] (S' := [(4, iv x1)]) (by kernel_rfl) ?_
    refine oD ?_
    refine qT ?_
    refine CodT.ret ?_
    refine Qn.block_ret ?_
    refine Qn.ret_then ?_
    refine Qn.ret_then ?_
    refine Qn.block_ret ?_
    refine Qn.ret_then ?_
    refine Qn.ret_then ?_
    have e := someS h1
    subst e
    try dsimp only at h0
    have e := someS h0
    subst e
    refine qK [4] (S' := [(4, iv x1)]) (by kernel_rfl) ?_
    exact post_ret (v := iv x1) (fun a ha => RunRes.run (vs := [iv x1]) (.tmp (t := 4) (by kernel_rfl) .nil) ha (by kernel_rfl)) ⟨rfl, hI⟩
   ·
    rw [if_neg hb11] at h1
    refine CodT.no' (b := y10) (by kernel_rfl) (by simpa using hb11) ?_
    refine CodT.skip ?_
    refine Qn.block_normal ?_
    refine qT ?_
    refine cR [0, 1] (by kernel_rfl) ?_
    refine oP (r := []) [0, 1] (S' := [(0, .slice A_a0 a0.length c_a0), (1, .func (.func 37) #[.string a1_f0] #[]), (7, iv (a0.length : Int)), (8, iv (wi64 (x1 + 1)))]) (by kernel_rfl) ?_
    refine oD ?_
    exact Qn.thenJ fun a ha => ⟨k, Nat.lt_succ_self k, wi64 (x1 + 1), h1, ha.keep [0, 1, 7, 8] (by kernel_rfl), hI⟩
  ·
   rw [if_neg hb2] at h1
   refine CodT.no' (b := decide (x1 < (a0.length : Int))) (by kernel_rfl) (by simpa using hb2) ?_
   refine CodT.exit ?_
   refine Qn.exit_then ?_
   refine Qn.exit_then ?_
   refine Qn.block ?_
   have e := someS h1
   subst e
   exact Qn.thenJ fun a ha => ⟨rfl, ha.keep [] (by kernel_rfl), hI⟩
 ·
  rintro a w ⟨rfl, ha, hI⟩
  try dsimp only at h0
  refine Qn.of ?_ ha
  refine qT ?_
  refine cQ ?_
  refine cR [0] (by kernel_rfl) ?_
  refine oP (r := []) [0] (S' := [(4, iv (-1))]) (by kernel_rfl) ?_
  refine oD ?_
  refine qT ?_
  refine CodT.ret ?_
  have e := someS h0
  subst e
  refine qK [4] (S' := [(4, iv (-1))]) (by kernel_rfl) ?_
  exact post_ret (v := iv (-1)) (fun a ha => RunRes.run (vs := [iv (-1)]) (.tmp (t := 4) (by kernel_rfl) .nil) ha (by kernel_rfl)) ⟨rfl, hI⟩
/-- slices.Clone[[]string,string] -/
theorem c39 (w0 w : World) (Z : Hp) (A : HP) (hI : Inv w0 Z w A) (hT : Tabs Z) (A_a0 : Option Addr) (c_a0 : Nat) (a0 : (List ByteArray)) (hr_a0 : RdS Z cS 1 A_a0 c_a0 a0) (r : (List ByteArray)) (h0 : slices_Clone_string a0 = some r) :
  Calls prog 39 #[.slice A_a0 a0.length c_a0] w (fun e w' => ∃ (A1 : Option Addr) (c1 : Nat), e = .returned (.slice A1 r.length c1) ∧ Inv w0 Z w' (star (ownS 9 cS 1 A1 c1 r) A)) := by
 have e4 := calls_intro (R := (fun e w' => ∃ (A1 : Option Addr) (c1 : Nat), e = .returned (.slice A1 r.length c1) ∧ Inv w0 Z w' (star (ownS 9 cS 1 A1 c1 r) A))) (w := w) (args := [.slice A_a0 a0.length c_a0]) (fn := Go.Proofs.Tryd.f39) 8 Go.Proofs.Tryd.func39 (by rfl) Go.Proofs.Tryd.ntmps39 (by kernel_rfl)
 refine e4 ?_
 clear e4
 unfold slices_Clone_string at h0
 refine cQ ?_
 refine cR [0] (by kernel_rfl) ?_
 refine oP (r := []) [0] (S' := [(0, .slice A_a0 a0.length c_a0)]) (by kernel_rfl) ?_
 refine oD ?_
 refine qT ?_
 refine cQ ?_
 refine cQ ?_
 refine cR [0, 1] (by kernel_rfl) ?_
 refine oP (r := [1]) [0] (S' := [(0, .slice A_a0 a0.length c_a0), (3, .slice A_a0 a0.length c_a0)]) (by kernel_rfl) ?_
 rcases A_a0 with _ | ad1
 rotate_left
 ·
  refine oC (Does.yi (Yl.eqlNilF (d := 4) (T := 25) (n := a0.length) (c := c_a0) (ad := ad1) (by kernel_rfl) Go.Proofs.Tryd.underlying25 (by kernel_rfl)) hI ?_)
  refine oD ?_
  refine qT ?_
  refine CodT.no (by kernel_rfl) ?_
  refine CodT.skip ?_
  refine qT ?_
  refine cQ ?_
  refine cR [0, 1, 2, 3] (by kernel_rfl) ?_
  refine oC (Does.buildSlice0 (en := cS) (d := 5) (T := 25) (by kernel_rfl) Go.Proofs.Tryd.underlying25 ty9 hI ?_)
  intro b2 w hI
  refine oP (r := [2, 3]) [1] (S' := [(5, .slice (some ⟨b2, 0, none⟩) (([] : List ByteArray).length) 0), (6, .slice (some ad1) a0.length c_a0)]) (by kernel_rfl) ?_
  obtain ⟨hg3, h0⟩ := guardS h0
  refine oC (Does.append (d := 7) (t := 25) (tx := 25) (ty := 25) (ys := ([] : List ByteArray)) (zs := a0) (x := .slice (some ad1) a0.length c_a0) (by kernel_rfl) Go.Proofs.Tryd.underlying25 ty9 (by kernel_rfl) hI (src_rd Go.Proofs.Tryd.underlying25 hI hr_a0 (one_flat _ (fun _ => rfl))) hr_a0.2.2.1 (by unfold LIM at hg3; omega) hg3 ?_)
  intro A4 cp5 w hI
  refine oP (r := []) [3] (S' := [(2, .slice A4 ((([] : List ByteArray) ++ a0).length) cp5)]) (by kernel_rfl) ?_
  refine oD ?_
  refine qT ?_
  refine CodT.ret ?_
  have e := someS h0
  subst e
  refine qK [2] (S' := [(2, .slice A4 ((([] : List ByteArray) ++ a0).length) cp5)]) (by kernel_rfl) ?_
  exact post_ret (v := .slice A4 ((([] : List ByteArray) ++ a0).length) cp5) (fun a ha => RunRes.run (vs := [.slice A4 ((([] : List ByteArray) ++ a0).length) cp5]) (.tmp (t := 2) (by kernel_rfl) .nil) ha (by kernel_rfl)) ⟨A4, cp5, rfl, hI⟩
 ·
  have hy6 := RdS.of_none hr_a0
  subst hy6
  replace h0 : some ([] : List ByteArray) = some r := by simpa [LIM] using h0
  refine oC (Does.yi (Yl.eqlNilT (d := 4) (T := 25) (n := ([] : List ByteArray).length) (c := c_a0) (by kernel_rfl) Go.Proofs.Tryd.underlying25 (by kernel_rfl)) hI ?_)
  refine oD ?_
  refine qT ?_
  refine CodT.yes (by kernel_rfl) ?_
  refine cQ ?_
  refine cR [0] (by kernel_rfl) ?_
  refine oP (r := []) [0] (S' := [(2, .slice none 0 0)]) (by kernel_rfl) ?_
  refine oD ?_
  refine qT ?_
  refine CodT.ret ?_
  refine Qn.ret_then ?_
  have hI := ownS_nil (α := ByteArray) hI 9 cS 1
  have e := someS h0
  subst e
  refine qK [2] (S' := [(2, .slice none 0 0)]) (by kernel_rfl) ?_
  exact post_ret (v := .slice none 0 0) (fun a ha => RunRes.run (vs := [.slice none 0 0]) (.tmp (t := 2) (by kernel_rfl) .nil) ha (by kernel_rfl)) ⟨none, 0, rfl, hI⟩
/-- slices.Insert[[]string,string] -/
theorem c38 (w0 w : World) (Z : Hp) (A : HP) (hT : Tabs Z) (A_a0 : Option Addr) (c_a0 : Nat) (a0 : List ByteArray) (a1 : Int) (A_a2 : Option Addr) (c_a2 : Nat) (a2 : List ByteArray) (hI : Inv w0 Z w (star (ownS 9 cS 1 A_a0 c_a0 a0) (star (ownS 9 cS 1 A_a2 c_a2 a2) A))) (r : List ByteArray) (h0 : insS a0 a1 a2 = some r) :
  Calls prog 38 #[.slice A_a0 a0.length c_a0, iv a1, .slice A_a2 a2.length c_a2] w (fun e w' => ∃ (A1 : Option Addr) (c1 : Nat), e = .returned (.slice A1 r.length c1) ∧ Inv w0 Z w' (star (ownS 9 cS 1 A1 c1 r) A)) :=
 ins_str lay22 rfl w0 w Z A A_a0 c_a0 a0 a1 A_a2 c_a2 a2 hI r h0
/-- cenotaph/rule.Hold -/
theorem c22 (w0 w : World) (Z : Hp) (A : HP) (hI : Inv w0 Z w A) (hT : Tabs Z) (ud : Int) (ue : ByteArray) (ub : ByteArray) (uf : Bool) (ug : Int) (ua : Option Addr) (uh : Nat) (uc : (List ByteArray)) (ui : RdS Z cS 1 ua uh uc) (a1 : ByteArray) (r : (Int × ByteArray × ByteArray × Bool × Int × (List ByteArray) × Int)) (h0 : rule_Hold ud ue ub uf ug uc a1 = some r) :
  Calls prog 22 #[.agg ([iv ud, .string ue, .string ub, .bool uf, iv ug, .slice ua uc.length uh] : LV).toArray, .string a1] w (fun e w' => ∃ (A1 : Option Addr) (c1 : Nat) (Z' : Hp), Z.le Z' ∧ e = .returned (.tuple #[.agg ([iv r.1, .string r.2.1, .string r.2.2.1, .bool r.2.2.2.1, iv r.2.2.2.2.1, .slice A1 r.2.2.2.2.2.1.length c1] : LV).toArray, iv r.2.2.2.2.2.2]) ∧ RdS Z' cS 1 A1 c1 r.2.2.2.2.2.1 ∧ Inv w0 Z' w' A) := by
 have e4 := calls_intro (R := (fun e w' => ∃ (A1 : Option Addr) (c1 : Nat) (Z' : Hp), Z.le Z' ∧ e = .returned (.tuple #[.agg ([iv r.1, .string r.2.1, .string r.2.2.1, .bool r.2.2.2.1, iv r.2.2.2.2.1, .slice A1 r.2.2.2.2.2.1.length c1] : LV).toArray, iv r.2.2.2.2.2.2]) ∧ RdS Z' cS 1 A1 c1 r.2.2.2.2.2.1 ∧ Inv w0 Z' w' A)) (w := w) (args := [.agg ([iv ud, .string ue, .string ub, .bool uf, iv ug, .slice ua uc.length uh] : LV).toArray, .string a1]) (fn := Go.Proofs.Tryd.f22) 48 Go.Proofs.Tryd.func22 (by rfl) Go.Proofs.Tryd.ntmps22 (by kernel_rfl)
 refine e4 ?_
 clear e4
 unfold rule_Hold at h0
 refine cQ ?_
 refine cR [0, 1, 2] (by kernel_rfl) ?_
 refine oC (Does.boxL (d := 2) (T := 27) (v := .agg ([iv ud, .string ue, .string ub, .bool uf, iv ug, .slice ua uc.length uh] : LV).toArray) ([iv ud, .string ue, .string ub, .bool uf, iv ug, .slice ua uc.length uh] : LV) (by kernel_rfl) hI (by kernel_rfl) ?_)
 intro b1 w hI
 refine oC (Does.allocL (d := 4) (T := 27) ((([iv 0, .string (⟨#[]⟩ : ByteArray), .string (⟨#[]⟩ : ByteArray), .bool false, iv 0, .slice none 0 0] : LV))) (by kernel_rfl) ty27 hI (by kernel_rfl) ?_)
 intro b2 w hI
 refine oP (r := []) [2] (S' := [(1, .string a1), (2, pb b1), (4, pb b2)]) (by kernel_rfl) ?_
 refine oD ?_
 refine qT ?_
 refine cQ ?_
 refine CodT.block ?_
 refine cQ ?_
 refine cR [0, 1, 2, 3] (by kernel_rfl) ?_
 refine oP (r := [1, 2, 3]) [0] (S' := [(1, .string a1), (2, pb b1), (4, pb b2), (8, .pointer (some ⟨b1, 3, none⟩))]) (by kernel_rfl) ?_
 refine oC (Does.yi (Yl.load (d := 9) (T := 4) (v := .bool uf) (by kernel_rfl) (ldB ty4 (l := ([iv ud, .string ue, .string ub, .bool uf, iv ug, .slice ua uc.length uh] : LV)) (o := 3) (v := .bool uf) (pick2 _ _ _) (by kernel_rfl))) hI ?_)
 refine oP (r := []) [2, 3] (S' := [(1, .string a1), (2, pb b1), (4, pb b2), (7, .bool (!uf))]) (by kernel_rfl) ?_
 refine oD ?_
 refine qT ?_
 by_cases hb3 : (!uf) = true
 ·
  rw [if_pos hb3] at h0
  refine CodT.yes' (b := !uf) (by kernel_rfl) hb3 ?_
  refine cQ ?_
  refine cR [0, 1, 2] (by kernel_rfl) ?_
  refine oC (Does.yi (Yl.load (d := 11) (T := 27) (v := .agg ([iv ud, .string ue, .string ub, .bool uf, iv ug, .slice ua uc.length uh] : LV).toArray) (by kernel_rfl) (ldBN ty27 (l := ([iv ud, .string ue, .string ub, .bool uf, iv ug, .slice ua uc.length uh] : LV)) (o := 0) (cs := ([iv ud, .string ue, .string ub, .bool uf, iv ug, .slice ua uc.length uh] : LV)) (pick2 _ _ _) (by kernel_rfl) (whole _ _ (by kernel_rfl)))) hI ?_)
  refine oC (dS (T := 27) (b := b2) (o := 0) (v := .agg ([iv ud, .string ue, .string ub, .bool uf, iv ug, .slice ua uc.length uh] : LV).toArray) (l := (([iv 0, .string (⟨#[]⟩ : ByteArray), .string (⟨#[]⟩ : ByteArray), .bool false, iv 0, .slice none 0 0] : LV))) (vs := ([iv ud, .string ue, .string ub, .bool uf, iv ug, .slice ua uc.length uh] : LV)) (L' := ([iv ud, .string ue, .string ub, .bool uf, iv ug, .slice ua uc.length uh] : LV)) (by kernel_rfl) ty27 hI (by kernel_rfl) (by kernel_rfl) (by kernel_rfl) (by kernel_rfl) (by kernel_rfl) ?_)
  intro w hI
  refine oP (r := []) [2] (S' := [(4, pb b2), (5, iv 6)]) (by kernel_rfl) ?_
  refine oD ?_
  refine qT ?_
  refine CodT.ret ?_
  refine Qn.block_ret ?_
  refine Qn.ret_then ?_
  have hL4 := (ldBN ty27 (l := ([iv ud, .string ue, .string ub, .bool uf, iv ug, .slice ua uc.length uh] : LV)) (o := 0) (cs := ([iv ud, .string ue, .string ub, .bool uf, iv ug, .slice ua uc.length uh] : LV)) (ent_refl _) (by kernel_rfl) (whole _ _ (by kernel_rfl))) w hI
  have hI := hI.drop
  have hI := hI.drop
  have e := someS h0
  subst e
  refine qK [4, 5] (S' := [(4, pb b2), (5, iv 6)]) (by kernel_rfl) ?_
  exact post_ret (v := .tuple #[.agg ([iv ud, .string ue, .string ub, .bool uf, iv ug, .slice ua uc.length uh] : LV).toArray, iv 6]) (fun a ha => RunRes.run (vs := [.agg ([iv ud, .string ue, .string ub, .bool uf, iv ug, .slice ua uc.length uh] : LV).toArray, iv 6]) (.cell (t := 4) (T := 27) (ad := ⟨b2, 0, none⟩) (by kernel_rfl) hL4 (.tmp (t := 5) (by kernel_rfl) .nil)) ha (by kernel_rfl)) ⟨ua, uh, Z, Hp.le_refl _, rfl, ui, hI⟩
 ·
  rw [if_neg hb3] at h0
  refine CodT.no' (b := !uf) (by kernel_rfl) (by simpa using hb3) ?_
  refine cQ ?_
  refine cR [0, 1, 2, 3] (by kernel_rfl) ?_
  refine oP (r := [1, 2, 3]) [0] (S' := [(1, .string a1), (2, pb b1), (4, pb b2), (13, .string a1)]) (by kernel_rfl) ?_
  obtain ⟨y6, hc5, h0⟩ := bindS h0
  try dsimp only at h0
  refine oC (Does.call (d := some 14) (n := 34) (vs := [.string a1]) (by kernel_rfl) en34 (c34 w0 w _ _ hI hT a1 _ hc5) ?_)
  rintro e w ⟨rfl, hI⟩
  refine ⟨_, rfl, ?_⟩
  refine oP (r := []) [2, 3] (S' := [(1, .string a1), (2, pb b1), (4, pb b2), (12, .bool (!y6))]) (by kernel_rfl) ?_
  refine oD ?_
  refine qT ?_
  by_cases hb7 : (!y6) = true
  ·
   rw [if_pos hb7] at h0
   refine CodT.yes' (b := !y6) (by kernel_rfl) hb7 ?_
   refine cQ ?_
   refine cR [0, 1, 2] (by kernel_rfl) ?_
   refine oC (Does.yi (Yl.load (d := 16) (T := 27) (v := .agg ([iv ud, .string ue, .string ub, .bool uf, iv ug, .slice ua uc.length uh] : LV).toArray) (by kernel_rfl) (ldBN ty27 (l := ([iv ud, .string ue, .string ub, .bool uf, iv ug, .slice ua uc.length uh] : LV)) (o := 0) (cs := ([iv ud, .string ue, .string ub, .bool uf, iv ug, .slice ua uc.length uh] : LV)) (pick2 _ _ _) (by kernel_rfl) (whole _ _ (by kernel_rfl)))) hI ?_)
   refine oC (dS (T := 27) (b := b2) (o := 0) (v := .agg ([iv ud, .string ue, .string ub, .bool uf, iv ug, .slice ua uc.length uh] : LV).toArray) (l := (([iv 0, .string (⟨#[]⟩ : ByteArray), .string (⟨#[]⟩ : ByteArray), .bool false, iv 0, .slice none 0 0] : LV))) (vs := ([iv ud, .string ue, .string ub, .bool uf, iv ug, .slice ua uc.length uh] : LV)) (L' := ([iv ud, .string ue, .string ub, .bool uf, iv ug, .slice ua uc.length uh] : LV)) (by kernel_rfl) ty27 hI (by kernel_rfl) (by kernel_rfl) (by kernel_rfl) (by kernel_rfl) (by kernel_rfl) ?_)
   intro w hI
   refine oP (r := []) [2] (S' := [(4, pb b2), (5, iv 2)]) (by kernel_rfl) ?_
   refine oD ?_
   refine qT ?_
   refine CodT.ret ?_
   refine Qn.block_ret ?_
   refine Qn.ret_then ?_
   have hL8 := (ldBN ty27 (l := ([iv ud, .string ue, .string ub, .bool uf, iv ug, .slice ua uc.length uh] : LV)) (o := 0) (cs := ([iv ud, .string ue, .string ub, .bool uf, iv ug, .slice ua uc.length uh] : LV)) (ent_refl _) (by kernel_rfl) (whole _ _ (by kernel_rfl))) w hI
   have hI := hI.drop
   have hI := hI.drop
   have e := someS h0
   subst e
   refine qK [4, 5] (S' := [(4, pb b2), (5, iv 2)]) (by kernel_rfl) ?_
   exact post_ret (v := .tuple #[.agg ([iv ud, .string ue, .string ub, .bool uf, iv ug, .slice ua uc.length uh] : LV).toArray, iv 2]) (fun a ha => RunRes.run (vs := [.agg ([iv ud, .string ue, .string ub, .bool uf, iv ug, .slice ua uc.length uh] : LV).toArray, iv 2]) (.cell (t := 4) (T := 27) (ad := ⟨b2, 0, none⟩) (by kernel_rfl) hL8 (.tmp (t := 5) (by kernel_rfl) .nil)) ha (by kernel_rfl)) ⟨ua, uh, Z, Hp.le_refl _, rfl, ui, hI⟩
  ·
   rw [if_neg hb7] at h0
   refine CodT.no' (b := !y6) (by kernel_rfl) (by simpa using hb7) ?_
   refine cQ ?_
   refine cR [0, 1, 2, 3, 4] (by kernel_rfl) ?_
   refine oP (r := [1, 2, 3, 4]) [0] (S' := [(1, .string a1), (2, pb b1), (4, pb b2), (18, .pointer (some ⟨b1, 5, none⟩))]) (by kernel_rfl) ?_
   refine oC (Does.yi (Yl.load (d := 19) (T := 25) (v := .slice ua uc.length uh) (by kernel_rfl) (ldB ty25 (l := ([iv ud, .string ue, .string ub, .bool uf, iv ug, .slice ua uc.length uh] : LV)) (o := 5) (v := .slice ua uc.length uh) (pick2 _ _ _) (by kernel_rfl))) hI ?_)
   refine oP (r := [3, 4]) [2] (S' := [(1, .string a1), (2, pb b1), (4, pb b2), (19, .slice ua uc.length uh), (20, .string a1)]) (by kernel_rfl) ?_
   obtain ⟨y10, hc9, h0⟩ := bindS h0
   try dsimp only at h0
   refine oC (Does.call (d := some 21) (n := 35) (vs := [.slice ua uc.length uh, .string a1]) (by kernel_rfl) en35 (c35 w0 w _ _ hI hT ua uh uc ui a1 _ hc9) ?_)
   rintro e w ⟨rfl, hI⟩
   refine ⟨_, rfl, ?_⟩
   refine oP (r := []) [4] (S' := [(1, .string a1), (2, pb b1), (4, pb b2), (17, .bool y10)]) (by kernel_rfl) ?_
   refine oD ?_
   refine qT ?_
   by_cases hb11 : y10 = true
   ·
    rw [if_pos hb11] at h0
    refine CodT.yes' (b := y10) (by kernel_rfl) hb11 ?_
    refine cQ ?_
    refine cR [0, 1, 2] (by kernel_rfl) ?_
    refine oC (Does.yi (Yl.load (d := 22) (T := 27) (v := .agg ([iv ud, .string ue, .string ub, .bool uf, iv ug, .slice ua uc.length uh] : LV).toArray) (by kernel_rfl) (ldBN ty27 (l := ([iv ud, .string ue, .string ub, .bool uf, iv ug, .slice ua uc.length uh] : LV)) (o := 0) (cs := ([iv ud, .string ue, .string ub, .bool uf, iv ug, .slice ua uc.length uh] : LV)) (pick2 _ _ _) (by kernel_rfl) (whole _ _ (by kernel_rfl)))) hI ?_)
    refine oC (dS (T := 27) (b := b2) (o := 0) (v := .agg ([iv ud, .string ue, .string ub, .bool uf, iv ug, .slice ua uc.length uh] : LV).toArray) (l := (([iv 0, .string (⟨#[]⟩ : ByteArray), .string (⟨#[]⟩ : ByteArray), .bool false, iv 0, .slice none 0 0] : LV))) (vs := ([iv ud, .string ue, .string ub, .bool uf, iv ug, .slice ua uc.length uh] : LV)) (L' := ([iv ud, .string ue, .string ub, .bool uf, iv ug, .slice ua uc.length uh] : LV)) (by kernel_rfl) ty27 hI (by kernel_rfl) (by kernel_rfl) (by kernel_rfl) (by kernel_rfl) (by kernel_rfl) ?_)
    intro w hI
    refine oP (r := []) [2] (S' := [(4, pb b2), (5, iv 4)]) (by kernel_rfl) ?_
    refine oD ?_
    refine qT ?_
    refine CodT.ret ?_
    refine Qn.block_ret ?_
    refine Qn.ret_then ?_
    have hL12 := (ldBN ty27 (l := ([iv ud, .string ue, .string ub, .bool uf, iv ug, .slice ua uc.length uh] : LV)) (o := 0) (cs := ([iv ud, .string ue, .string ub, .bool uf, iv ug, .slice ua uc.length uh] : LV)) (ent_refl _) (by kernel_rfl) (whole _ _ (by kernel_rfl))) w hI
    have hI := hI.drop
    have hI := hI.drop
    have e := someS h0
    subst e
    refine qK [4, 5] (S' := [(4, pb b2), (5, iv 4)]) (by kernel_rfl) ?_
    exact post_ret (v := .tuple #[.agg ([iv ud, .string ue, .string ub, .bool uf, iv ug, .slice ua uc.length uh] : LV).toArray, iv 4]) (fun a ha => RunRes.run (vs := [.agg ([iv ud, .string ue, .string ub, .bool uf, iv ug, .slice ua uc.length uh] : LV).toArray, iv 4]) (.cell (t := 4) (T := 27) (ad := ⟨b2, 0, none⟩) (by kernel_rfl) hL12 (.tmp (t := 5) (by kernel_rfl) .nil)) ha (by kernel_rfl)) ⟨ua, uh, Z, Hp.le_refl _, rfl, ui, hI⟩
   ·
    rw [if_neg hb11] at h0
    refine CodT.no' (b := y10) (by kernel_rfl) (by simpa using hb11) ?_
    refine cQ ?_
    refine cR [0, 1, 2, 3, 4] (by kernel_rfl) ?_
    refine oP (r := [1, 2, 3, 4]) [0] (S' := [(1, .string a1), (2, pb b1), (4, pb b2), (24, .pointer (some ⟨b1, 5, none⟩))]) (by kernel_rfl) ?_
    refine oC (Does.yi (Yl.load (d := 25) (T := 25) (v := .slice ua uc.length uh) (by kernel_rfl) (ldB ty25 (l := ([iv ud, .string ue, .string ub, .bool uf, iv ug, .slice ua uc.length uh] : LV)) (o := 5) (v := .slice ua uc.length uh) (pick2 _ _ _) (by kernel_rfl))) hI ?_)
    refine oP (r := []) [2, 3, 4] (S' := [(1, .string a1), (2, pb b1), (4, pb b2), (23, .bool (decide ((uc.length : Int) ≥ 4)))]) (by kernel_rfl) ?_
    refine oD ?_
    refine qT ?_
    by_cases hb13 : (decide ((uc.length : Int) ≥ 4)) = true
    ·
     rw [if_pos hb13] at h0
     refine CodT.yes' (b := decide ((uc.length : Int) ≥ 4)) (by kernel_rfl) hb13 ?_
     refine cQ ?_
     refine cR [0, 1, 2] (by kernel_rfl) ?_
     refine oC (Does.yi (Yl.load (d := 28) (T := 27) (v := .agg ([iv ud, .string ue, .string ub, .bool uf, iv ug, .slice ua uc.length uh] : LV).toArray) (by kernel_rfl) (ldBN ty27 (l := ([iv ud, .string ue, .string ub, .bool uf, iv ug, .slice ua uc.length uh] : LV)) (o := 0) (cs := ([iv ud, .string ue, .string ub, .bool uf, iv ug, .slice ua uc.length uh] : LV)) (pick2 _ _ _) (by kernel_rfl) (whole _ _ (by kernel_rfl)))) hI ?_)
     refine oC (dS (T := 27) (b := b2) (o := 0) (v := .agg ([iv ud, .string ue, .string ub, .bool uf, iv ug, .slice ua uc.length uh] : LV).toArray) (l := (([iv 0, .string (⟨#[]⟩ : ByteArray), .string (⟨#[]⟩ : ByteArray), .bool false, iv 0, .slice none 0 0] : LV))) (vs := ([iv ud, .string ue, .string ub, .bool uf, iv ug, .slice ua uc.length uh] : LV)) (L' := ([iv ud, .string ue, .string ub, .bool uf, iv ug, .slice ua uc.length uh] : LV)) (by kernel_rfl) ty27 hI (by kernel_rfl) (by kernel_rfl) (by kernel_rfl) (by kernel_rfl) (by kernel_rfl) ?_)
     intro w hI
     refine oP (r := []) [2] (S' := [(4, pb b2), (5, iv 10)]) (by kernel_rfl) ?_
     refine oD ?_
     refine qT ?_
     refine CodT.ret ?_
     refine Qn.block_ret ?_
     refine Qn.ret_then ?_
     have hL14 := (ldBN ty27 (l := ([iv ud, .string ue, .string ub, .bool uf, iv ug, .slice ua uc.length uh] : LV)) (o := 0) (cs := ([iv ud, .string ue, .string ub, .bool uf, iv ug, .slice ua uc.length uh] : LV)) (ent_refl _) (by kernel_rfl) (whole _ _ (by kernel_rfl))) w hI
     have hI := hI.drop
     have hI := hI.drop
     have e := someS h0
     subst e
     refine qK [4, 5] (S' := [(4, pb b2), (5, iv 10)]) (by kernel_rfl) ?_
     exact post_ret (v := .tuple #[.agg ([iv ud, .string ue, .string ub, .bool uf, iv ug, .slice ua uc.length uh] : LV).toArray, iv 10]) (fun a ha => RunRes.run (vs := [.agg ([iv ud, .string ue, .string ub, .bool uf, iv ug, .slice ua uc.length uh] : LV).toArray, iv 10]) (.cell (t := 4) (T := 27) (ad := ⟨b2, 0, none⟩) (by kernel_rfl) hL14 (.tmp (t := 5) (by kernel_rfl) .nil)) ha (by kernel_rfl)) ⟨ua, uh, Z, Hp.le_refl _, rfl, ui, hI⟩
    ·
     rw [if_neg hb13] at h0
     refine CodT.no' (b := decide ((uc.length : Int) ≥ 4)) (by kernel_rfl) (by simpa using hb13) ?_
     refine CodT.skip ?_
     refine Qn.block_normal ?_
     refine qT ?_
     refine cQ ?_
     refine cR [0, 1, 2, 3, 4, 5] (by kernel_rfl) ?_
     refine oP (r := [1, 2, 3, 4, 5]) [0] (S' := [(1, .string a1), (2, pb b1), (4, pb b2), (29, .pointer (some ⟨b1, 5, none⟩))]) (by kernel_rfl) ?_
     refine oC (Does.yi (Yl.load (d := 30) (T := 25) (v := .slice ua uc.length uh) (by kernel_rfl) (ldB ty25 (l := ([iv ud, .string ue, .string ub, .bool uf, iv ug, .slice ua uc.length uh] : LV)) (o := 5) (v := .slice ua uc.length uh) (pick2 _ _ _) (by kernel_rfl))) hI ?_)
     refine oP (r := [4, 5]) [2, 3] (S' := [(1, .string a1), (2, pb b1), (4, pb b2), (30, .slice ua uc.length uh), (32, .func (.func 37) #[.string a1] #[])]) (by kernel_rfl) ?_
     obtain ⟨y16, hc15, h0⟩ := bindS h0
     try dsimp only at h0
     refine oC (Does.call (d := some 33) (n := 36) (vs := [.slice ua uc.length uh, .func (.func 37) #[.string a1] #[]]) (by kernel_rfl) en36 (c36 w0 w _ _ hI hT ua uh uc ui a1 _ hc15) ?_)
     rintro e w ⟨rfl, hI⟩
     refine ⟨_, rfl, ?_⟩
     refine oP (r := []) [5] (S' := [(1, .string a1), (2, pb b1), (4, pb b2), (6, iv y16)]) (by kernel_rfl) ?_
     refine oD ?_
     refine qT ?_
     obtain ⟨r1, h1, h0⟩ := bindS h0
     refine CodT.meet (fun a w => ∃ (x17 : Int), x17 = r1 ∧ Fr 48 [(1, .string a1), (2, pb b1), (4, pb b2), (6, iv x17)] a ∧ Inv w0 Z w (star (pt b2 (.cells ((([iv 0, .string (⟨#[]⟩ : ByteArray), .string (⟨#[]⟩ : ByteArray), .bool false, iv 0, .slice none 0 0] : LV))).toArray 27 (0, 0))) (star (pt b1 (.cells ([iv ud, .string ue, .string ub, .bool uf, iv ug, .slice ua uc.length uh] : LV).toArray 27 (0, 0))) A))) ?_ ?_
     ·
      refine cQ ?_
      refine cR [0, 1] (by kernel_rfl) ?_
      refine oP (r := []) [0, 1] (S' := [(1, .string a1), (2, pb b1), (4, pb b2), (6, iv y16), (35, .bool (decide (y16 < 0)))]) (by kernel_rfl) ?_
      refine oD ?_
      refine qT ?_
      by_cases hb18 : (decide (y16 < 0)) = true
      ·
       rw [if_pos hb18] at h1
       refine CodT.yes' (b := decide (y16 < 0)) (by kernel_rfl) hb18 ?_
       refine cR [0, 1, 2, 3] (by kernel_rfl) ?_
       refine oP (r := [1, 2, 3]) [0] (S' := [(1, .string a1), (2, pb b1), (4, pb b2), (36, .pointer (some ⟨b1, 5, none⟩))]) (by kernel_rfl) ?_
       refine oC (Does.yi (Yl.load (d := 37) (T := 25) (v := .slice ua uc.length uh) (by kernel_rfl) (ldB ty25 (l := ([iv ud, .string ue, .string ub, .bool uf, iv ug, .slice ua uc.length uh] : LV)) (o := 5) (v := .slice ua uc.length uh) (pick2 _ _ _) (by kernel_rfl))) hI ?_)
       refine oP (r := []) [2, 3] (S' := [(1, .string a1), (2, pb b1), (4, pb b2), (6, iv (uc.length : Int))]) (by kernel_rfl) ?_
       refine oD ?_
       have e := someS h1
       subst e
       exact Qn.thenJ fun a ha => ⟨(uc.length : Int), rfl, ha.keep [1, 2, 4, 6] (by kernel_rfl), hI⟩
      ·
       rw [if_neg hb18] at h1
       refine CodT.no' (b := decide (y16 < 0)) (by kernel_rfl) (by simpa using hb18) ?_
       refine CodT.skip ?_
       have e := someS h1
       subst e
       exact Qn.thenJ fun a ha => ⟨y16, rfl, ha.keep [1, 2, 4, 6] (by kernel_rfl), hI⟩
     ·
      rintro a w ⟨x17, rfl, ha, hI⟩
      try dsimp only at h0
      refine CodT.of ?_ ha
      refine cQ ?_
      refine cR [0, 1, 2, 3, 4, 5, 6, 7, 8] (by kernel_rfl) ?_
      refine oP (r := [1, 2, 3, 4, 5, 6, 7, 8]) [0] (S' := [(1, .string a1), (2, pb b1), (4, pb b2), (6, iv x17), (39, .pointer (some ⟨b1, 5, none⟩))]) (by kernel_rfl) ?_
      refine oC (Does.yi (Yl.load (d := 40) (T := 25) (v := .slice ua uc.length uh) (by kernel_rfl) (ldB ty25 (l := ([iv ud, .string ue, .string ub, .bool uf, iv ug, .slice ua uc.length uh] : LV)) (o := 5) (v := .slice ua uc.length uh) (pick2 _ _ _) (by kernel_rfl))) hI ?_)
      obtain ⟨y20, hc19, h0⟩ := bindS h0
      try dsimp only at h0
      refine oC (Does.call (d := some 41) (n := 39) (vs := [.slice ua uc.length uh]) (by kernel_rfl) en39 (c39 w0 w _ _ hI hT ua uh uc ui _ hc19) ?_)
      rintro e w ⟨A21, cp22, rfl, hI⟩
      refine ⟨_, rfl, ?_⟩
      refine oP (r := [5, 6, 7, 8]) [3, 4] (S' := [(2, pb b1), (4, pb b2), (41, .slice A21 y20.length cp22), (42, iv x17), (43, .string a1)]) (by kernel_rfl) ?_
      refine oC (Does.buildSlice (en := cS) (d := 44) (n := 1) (T := 25) (ps := [(0, .string a1)]) ([a1] : List ByteArray) (by kernel_rfl) Go.Proofs.Tryd.underlying25 ty9 (by kernel_rfl) (by kernel_rfl) (by kernel_rfl) (by kernel_rfl) (len_all (fun _ => rfl)) hI ?_)
      intro b23 w hI
      have hI := hI.mono (pick2 _ _ _)
      obtain ⟨y25, hc24, h0⟩ := bindS h0
      try dsimp only at h0
      refine oC (Does.call (d := some 45) (n := 38) (vs := [.slice A21 y20.length cp22, iv x17, .slice (some ⟨b23, 0, none⟩) (([a1] : List ByteArray).length) 1]) (by kernel_rfl) en38 (c38 w0 w _ _ hT A21 cp22 y20 x17 (some ⟨b23, 0, none⟩) 1 ([a1] : List ByteArray) hI _ hc24) ?_)
      rintro e w ⟨A26, cp27, rfl, hI⟩
      refine ⟨_, rfl, ?_⟩
      refine oP (r := [8]) [7] (S' := [(2, pb b1), (4, pb b2), (45, .slice A26 y25.length cp27), (46, .pointer (some ⟨b1, 5, none⟩))]) (by kernel_rfl) ?_
      have hI := hI.mono (pick3 _ _ _ _)
      refine oC (dS (T := 25) (b := b1) (o := 5) (v := .slice A26 y25.length cp27) (l := ([iv ud, .string ue, .string ub, .bool uf, iv ug, .slice ua uc.length uh] : LV)) (vs := ([.slice A26 y25.length cp27] : LV)) (L' := ([iv ud, .string ue, .string ub, .bool uf, iv ug, .slice A26 y25.length cp27] : LV)) (by kernel_rfl) ty25 hI (by kernel_rfl) (by kernel_rfl) (by kernel_rfl) (by kernel_rfl) (by kernel_rfl) ?_)
      intro w hI
      refine oD ?_
      refine qT ?_
      refine cQ ?_
      refine cR [0, 1, 2] (by kernel_rfl) ?_
      refine oC (Does.yi (Yl.load (d := 47) (T := 27) (v := .agg ([iv ud, .string ue, .string ub, .bool uf, iv ug, .slice A26 y25.length cp27] : LV).toArray) (by kernel_rfl) (ldBN ty27 (l := ([iv ud, .string ue, .string ub, .bool uf, iv ug, .slice A26 y25.length cp27] : LV)) (o := 0) (cs := ([iv ud, .string ue, .string ub, .bool uf, iv ug, .slice A26 y25.length cp27] : LV)) (ent_refl _) (by kernel_rfl) (whole _ _ (by kernel_rfl)))) hI ?_)
      have hI := hI.mono (pick3 _ _ _ _)
      refine oC (dS (T := 27) (b := b2) (o := 0) (v := .agg ([iv ud, .string ue, .string ub, .bool uf, iv ug, .slice A26 y25.length cp27] : LV).toArray) (l := (([iv 0, .string (⟨#[]⟩ : ByteArray), .string (⟨#[]⟩ : ByteArray), .bool false, iv 0, .slice none 0 0] : LV))) (vs := ([iv ud, .string ue, .string ub, .bool uf, iv ug, .slice A26 y25.length cp27] : LV)) (L' := ([iv ud, .string ue, .string ub, .bool uf, iv ug, .slice A26 y25.length cp27] : LV)) (by kernel_rfl) ty27 hI (by kernel_rfl) (by kernel_rfl) (by kernel_rfl) (by kernel_rfl) (by kernel_rfl) ?_)
      intro w hI
      refine oP (r := []) [2] (S' := [(4, pb b2), (5, iv 0)]) (by kernel_rfl) ?_
      refine oD ?_
      refine qT ?_
      refine CodT.ret ?_
      have hI := hI.mono (pick3 _ _ _ _)
      obtain ⟨Z28, hle29, hr30, hI⟩ := ownS_freeze hI
      have hL31 := (ldBN ty27 (l := ([iv ud, .string ue, .string ub, .bool uf, iv ug, .slice A26 y25.length cp27] : LV)) (o := 0) (cs := ([iv ud, .string ue, .string ub, .bool uf, iv ug, .slice A26 y25.length cp27] : LV)) (ent_refl _) (by kernel_rfl) (whole _ _ (by kernel_rfl))) w hI
      have hI := hI.drop
      have hI := hI.drop
      have e := someS h0
      subst e
      refine qK [4, 5] (S' := [(4, pb b2), (5, iv 0)]) (by kernel_rfl) ?_
      exact post_ret (v := .tuple #[.agg ([iv ud, .string ue, .string ub, .bool uf, iv ug, .slice A26 y25.length cp27] : LV).toArray, iv 0]) (fun a ha => RunRes.run (vs := [.agg ([iv ud, .string ue, .string ub, .bool uf, iv ug, .slice A26 y25.length cp27] : LV).toArray, iv 0]) (.cell (t := 4) (T := 27) (ad := ⟨b2, 0, none⟩) (by kernel_rfl) hL31 (.tmp (t := 5) (by kernel_rfl) .nil)) ha (by kernel_rfl)) ⟨A26, cp27, Z28, hle29, rfl, hr30, hI⟩
/-- slices.Delete[[]string,string] -/
theorem c41 (w0 w : World) (Z : Hp) (A : HP) (hT : Tabs Z) (A_a0 : Option Addr) (c_a0 : Nat) (a0 : List ByteArray) (a1 : Int) (a2 : Int) (hI : Inv w0 Z w (star (ownS 9 cS 1 A_a0 c_a0 a0) A)) (r : List ByteArray) (h0 : delS a0 a1 a2 = some r) :
  Calls prog 41 #[.slice A_a0 a0.length c_a0, iv a1, iv a2] w (fun e w' => ∃ (A1 : Option Addr) (c1 : Nat), e = .returned (.slice A1 r.length c1) ∧ Inv w0 Z w' (star (ownS 9 cS 1 A1 c1 r) A)) :=
 del_str lay24 rfl w0 w Z A A_a0 c_a0 a0 a1 a2 hI r h0
/-- cenotaph/rule.Release -/
theorem c23 (w0 w : World) (Z : Hp) (A : HP) (hI : Inv w0 Z w A) (hT : Tabs Z) (ud : Int) (ue : ByteArray) (ub : ByteArray) (uf : Bool) (ug : Int) (ua : Option Addr) (uh : Nat) (uc : (List ByteArray)) (ui : RdS Z cS 1 ua uh uc) (a1 : ByteArray) (r : (Int × ByteArray × ByteArray × Bool × Int × (List ByteArray) × Int)) (h0 : rule_Release ud ue ub uf ug uc a1 = some r) :
  Calls prog 23 #[.agg ([iv ud, .string ue, .string ub, .bool uf, iv ug, .slice ua uc.length uh] : LV).toArray, .string a1] w (fun e w' => ∃ (A1 : Option Addr) (c1 : Nat) (Z' : Hp), Z.le Z' ∧ e = .returned (.tuple #[.agg ([iv r.1, .string r.2.1, .string r.2.2.1, .bool r.2.2.2.1, iv r.2.2.2.2.1, .slice A1 r.2.2.2.2.2.1.length c1] : LV).toArray, iv r.2.2.2.2.2.2]) ∧ RdS Z' cS 1 A1 c1 r.2.2.2.2.2.1 ∧ Inv w0 Z' w' A) := by
 have e4 := calls_intro (R := (fun e w' => ∃ (A1 : Option Addr) (c1 : Nat) (Z' : Hp), Z.le Z' ∧ e = .returned (.tuple #[.agg ([iv r.1, .string r.2.1, .string r.2.2.1, .bool r.2.2.2.1, iv r.2.2.2.2.1, .slice A1 r.2.2.2.2.2.1.length c1] : LV).toArray, iv r.2.2.2.2.2.2]) ∧ RdS Z' cS 1 A1 c1 r.2.2.2.2.2.1 ∧ Inv w0 Z' w' A)) (w := w) (args := [.agg ([iv ud, .string ue, .string ub, .bool uf, iv ug, .slice ua uc.length uh] : LV).toArray, .string a1]) (fn := Go.Proofs.Tryd.f23) 23 Go.Proofs.Tryd.func23 (by rfl) Go.Proofs.Tryd.ntmps23 (by kernel_rfl)
 refine e4 ?_
 clear e4
 unfold rule_Release at h0
 refine cQ ?_
 refine cR [0, 1, 2] (by kernel_rfl) ?_
 refine oC (Does.boxL (d := 2) (T := 27) (v := .agg ([iv ud, .string ue, .string ub, .bool uf, iv ug, .slice ua uc.length uh] : LV).toArray) ([iv ud, .string ue, .string ub, .bool uf, iv ug, .slice ua uc.length uh] : LV) (by kernel_rfl) hI (by kernel_rfl) ?_)
 intro b1 w hI
 refine oC (Does.allocL (d := 4) (T := 27) ((([iv 0, .string (⟨#[]⟩ : ByteArray), .string (⟨#[]⟩ : ByteArray), .bool false, iv 0, .slice none 0 0] : LV))) (by kernel_rfl) ty27 hI (by kernel_rfl) ?_)
 intro b2 w hI
 refine oP (r := []) [2] (S' := [(1, .string a1), (2, pb b1), (4, pb b2)]) (by kernel_rfl) ?_
 refine oD ?_
 refine qT ?_
 refine cQ ?_
 refine cR [0, 1, 2, 3, 4] (by kernel_rfl) ?_
 refine oP (r := [1, 2, 3, 4]) [0] (S' := [(1, .string a1), (2, pb b1), (4, pb b2), (7, .pointer (some ⟨b1, 5, none⟩))]) (by kernel_rfl) ?_
 refine oC (Does.yi (Yl.load (d := 8) (T := 25) (v := .slice ua uc.length uh) (by kernel_rfl) (ldB ty25 (l := ([iv ud, .string ue, .string ub, .bool uf, iv ug, .slice ua uc.length uh] : LV)) (o := 5) (v := .slice ua uc.length uh) (pick2 _ _ _) (by kernel_rfl))) hI ?_)
 refine oP (r := [3, 4]) [2] (S' := [(2, pb b1), (4, pb b2), (8, .slice ua uc.length uh), (9, .string a1)]) (by kernel_rfl) ?_
 obtain ⟨y4, hc3, h0⟩ := bindS h0
 try dsimp only at h0
 refine oC (Does.call (d := some 10) (n := 40) (vs := [.slice ua uc.length uh, .string a1]) (by kernel_rfl) en40 (c40 w0 w _ _ hI hT ua uh uc ui a1 _ hc3) ?_)
 rintro e w ⟨rfl, hI⟩
 refine ⟨_, rfl, ?_⟩
 refine oP (r := []) [4] (S' := [(2, pb b1), (4, pb b2), (6, iv y4)]) (by kernel_rfl) ?_
 refine oD ?_
 refine qT ?_
 refine cQ ?_
 refine cQ ?_
 refine cR [0, 1] (by kernel_rfl) ?_
 refine oP (r := []) [0, 1] (S' := [(2, pb b1), (4, pb b2), (6, iv y4), (12, .bool (decide (y4 < 0)))]) (by kernel_rfl) ?_
 refine oD ?_
 refine qT ?_
 by_cases hb5 : (decide (y4 < 0)) = true
 ·
  rw [if_pos hb5] at h0
  refine CodT.yes' (b := decide (y4 < 0)) (by kernel_rfl) hb5 ?_
  refine cQ ?_
  refine cR [0, 1, 2] (by kernel_rfl) ?_
  refine oC (Does.yi (Yl.load (d := 13) (T := 27) (v := .agg ([iv ud, .string ue, .string ub, .bool uf, iv ug, .slice ua uc.length uh] : LV).toArray) (by kernel_rfl) (ldBN ty27 (l := ([iv ud, .string ue, .string ub, .bool uf, iv ug, .slice ua uc.length uh] : LV)) (o := 0) (cs := ([iv ud, .string ue, .string ub, .bool uf, iv ug, .slice ua uc.length uh] : LV)) (pick2 _ _ _) (by kernel_rfl) (whole _ _ (by kernel_rfl)))) hI ?_)
  refine oC (dS (T := 27) (b := b2) (o := 0) (v := .agg ([iv ud, .string ue, .string ub, .bool uf, iv ug, .slice ua uc.length uh] : LV).toArray) (l := (([iv 0, .string (⟨#[]⟩ : ByteArray), .string (⟨#[]⟩ : ByteArray), .bool false, iv 0, .slice none 0 0] : LV))) (vs := ([iv ud, .string ue, .string ub, .bool uf, iv ug, .slice ua uc.length uh] : LV)) (L' := ([iv ud, .string ue, .string ub, .bool uf, iv ug, .slice ua uc.length uh] : LV)) (by kernel_rfl) ty27 hI (by kernel_rfl) (by kernel_rfl) (by kernel_rfl) (by kernel_rfl) (by kernel_rfl) ?_)
  intro w hI
  refine oP (r := []) [2] (S' := [(4, pb b2), (5, iv 3)]) (by kernel_rfl) ?_
  refine oD ?_
  refine qT ?_
  refine CodT.ret ?_
  refine Qn.ret_then ?_
  have hL6 := (ldBN ty27 (l := ([iv ud, .string ue, .string ub, .bool uf, iv ug, .slice ua uc.length uh] : LV)) (o := 0) (cs := ([iv ud, .string ue, .string ub, .bool uf, iv ug, .slice ua uc.length uh] : LV)) (ent_refl _) (by kernel_rfl) (whole _ _ (by kernel_rfl))) w hI
  have hI := hI.drop
  have hI := hI.drop
  have e := someS h0
  subst e
  refine qK [4, 5] (S' := [(4, pb b2), (5, iv 3)]) (by kernel_rfl) ?_
  exact post_ret (v := .tuple #[.agg ([iv ud, .string ue, .string ub, .bool uf, iv ug, .slice ua uc.length uh] : LV).toArray, iv 3]) (fun a ha => RunRes.run (vs := [.agg ([iv ud, .string ue, .string ub, .bool uf, iv ug, .slice ua uc.length uh] : LV).toArray, iv 3]) (.cell (t := 4) (T := 27) (ad := ⟨b2, 0, none⟩) (by kernel_rfl) hL6 (.tmp (t := 5) (by kernel_rfl) .nil)) ha (by kernel_rfl)) ⟨ua, uh, Z, Hp.le_refl _, rfl, ui, hI⟩
 ·
  rw [if_neg hb5] at h0
  refine CodT.no' (b := decide (y4 < 0)) (by kernel_rfl) (by simpa using hb5) ?_
  refine CodT.skip ?_
  refine qT ?_
  refine cQ ?_
  refine cR [0, 1, 2, 3, 4, 5, 6, 7, 8] (by kernel_rfl) ?_
  refine oP (r := [1, 2, 3, 4, 5, 6, 7, 8]) [0] (S' := [(2, pb b1), (4, pb b2), (6, iv y4), (14, .pointer (some ⟨b1, 5, none⟩))]) (by kernel_rfl) ?_
  refine oC (Does.yi (Yl.load (d := 15) (T := 25) (v := .slice ua uc.length uh) (by kernel_rfl) (ldB ty25 (l := ([iv ud, .string ue, .string ub, .bool uf, iv ug, .slice ua uc.length uh] : LV)) (o := 5) (v := .slice ua uc.length uh) (pick2 _ _ _) (by kernel_rfl))) hI ?_)
  obtain ⟨y8, hc7, h0⟩ := bindS h0
  try dsimp only at h0
  refine oC (Does.call (d := some 16) (n := 39) (vs := [.slice ua uc.length uh]) (by kernel_rfl) en39 (c39 w0 w _ _ hI hT ua uh uc ui _ hc7) ?_)
  rintro e w ⟨A9, cp10, rfl, hI⟩
  refine ⟨_, rfl, ?_⟩
  refine oP (r := [6, 7, 8]) [3, 4, 5] (S' := [(2, pb b1), (4, pb b2), (16, .slice A9 y8.length cp10), (17, iv y4), (19, iv (wi64 (y4 + 1)))]) (by kernel_rfl) ?_
  obtain ⟨y12, hc11, h0⟩ := bindS h0
  try dsimp only at h0
  refine oC (Does.call (d := some 20) (n := 41) (vs := [.slice A9 y8.length cp10, iv y4, iv (wi64 (y4 + 1))]) (by kernel_rfl) en41 (c41 w0 w _ _ hT A9 cp10 y8 y4 (wi64 (y4 + 1)) hI _ hc11) ?_)
  rintro e w ⟨A13, cp14, rfl, hI⟩
  refine ⟨_, rfl, ?_⟩
  refine oP (r := [8]) [7] (S' := [(2, pb b1), (4, pb b2), (20, .slice A13 y12.length cp14), (21, .pointer (some ⟨b1, 5, none⟩))]) (by kernel_rfl) ?_
  have hI := hI.mono (pick3 _ _ _ _)
  refine oC (dS (T := 25) (b := b1) (o := 5) (v := .slice A13 y12.length cp14) (l := ([iv ud, .string ue, .string ub, .bool uf, iv ug, .slice ua uc.length uh] : LV)) (vs := ([.slice A13 y12.length cp14] : LV)) (L' := ([iv ud, .string ue, .string ub, .bool uf, iv ug, .slice A13 y12.length cp14] : LV)) (by kernel_rfl) ty25 hI (by kernel_rfl) (by kernel_rfl) (by kernel_rfl) (by kernel_rfl) (by kernel_rfl) ?_)
  intro w hI
  refine oD ?_
  refine qT ?_
  refine cQ ?_
  refine cR [0, 1, 2] (by kernel_rfl) ?_
  refine oC (Does.yi (Yl.load (d := 22) (T := 27) (v := .agg ([iv ud, .string ue, .string ub, .bool uf, iv ug, .slice A13 y12.length cp14] : LV).toArray) (by kernel_rfl) (ldBN ty27 (l := ([iv ud, .string ue, .string ub, .bool uf, iv ug, .slice A13 y12.length cp14] : LV)) (o := 0) (cs := ([iv ud, .string ue, .string ub, .bool uf, iv ug, .slice A13 y12.length cp14] : LV)) (ent_refl _) (by kernel_rfl) (whole _ _ (by kernel_rfl)))) hI ?_)
  have hI := hI.mono (pick3 _ _ _ _)
  refine oC (dS (T := 27) (b := b2) (o := 0) (v := .agg ([iv ud, .string ue, .string ub, .bool uf, iv ug, .slice A13 y12.length cp14] : LV).toArray) (l := (([iv 0, .string (⟨#[]⟩ : ByteArray), .string (⟨#[]⟩ : ByteArray), .bool false, iv 0, .slice none 0 0] : LV))) (vs := ([iv ud, .string ue, .string ub, .bool uf, iv ug, .slice A13 y12.length cp14] : LV)) (L' := ([iv ud, .string ue, .string ub, .bool uf, iv ug, .slice A13 y12.length cp14] : LV)) (by kernel_rfl) ty27 hI (by kernel_rfl) (by kernel_rfl) (by kernel_rfl) (by kernel_rfl) (by kernel_rfl) ?_)
  intro w hI
  refine oP (r := []) [2] (S' := [(4, pb b2), (5, iv 0)]) (by kernel_rfl) ?_
  refine oD ?_
  refine qT ?_
  refine CodT.ret ?_
  have hI := hI.mono (pick3 _ _ _ _)
  obtain ⟨Z15, hle16, hr17, hI⟩ := ownS_freeze hI
  have hL18 := (ldBN ty27 (l := ([iv ud, .string ue, .string ub, .bool uf, iv ug, .slice A13 y12.length cp14] : LV)) (o := 0) (cs := ([iv ud, .string ue, .string ub, .bool uf, iv ug, .slice A13 y12.length cp14] : LV)) (ent_refl _) (by kernel_rfl) (whole _ _ (by kernel_rfl))) w hI
  have hI := hI.drop
  have hI := hI.drop
  have e := someS h0
  subst e
  refine qK [4, 5] (S' := [(4, pb b2), (5, iv 0)]) (by kernel_rfl) ?_
  exact post_ret (v := .tuple #[.agg ([iv ud, .string ue, .string ub, .bool uf, iv ug, .slice A13 y12.length cp14] : LV).toArray, iv 0]) (fun a ha => RunRes.run (vs := [.agg ([iv ud, .string ue, .string ub, .bool uf, iv ug, .slice A13 y12.length cp14] : LV).toArray, iv 0]) (.cell (t := 4) (T := 27) (ad := ⟨b2, 0, none⟩) (by kernel_rfl) hL18 (.tmp (t := 5) (by kernel_rfl) .nil)) ha (by kernel_rfl)) ⟨A13, cp14, Z15, hle16, rfl, hr17, hI⟩
/-- cenotaph/rule.Extend -/
theorem c21 (w0 w : World) (Z : Hp) (A : HP) (hI : Inv w0 Z w A) (hT : Tabs Z) (ud : Int) (ue : ByteArray) (ub : ByteArray) (uf : Bool) (ug : Int) (ua : Option Addr) (uh : Nat) (uc : (List ByteArray)) (ui : RdS Z cS 1 ua uh uc) (a1 : Int) (r : (Int × ByteArray × ByteArray × Bool × Int × (List ByteArray) × Int)) (h0 : rule_Extend ud ue ub uf ug uc a1 = some r) :
  Calls prog 21 #[.agg ([iv ud, .string ue, .string ub, .bool uf, iv ug, .slice ua uc.length uh] : LV).toArray, iv a1] w (fun e w' => ∃ (A1 : Option Addr) (c1 : Nat) (Z' : Hp), Z.le Z' ∧ e = .returned (.tuple #[.agg ([iv r.1, .string r.2.1, .string r.2.2.1, .bool r.2.2.2.1, iv r.2.2.2.2.1, .slice A1 r.2.2.2.2.2.1.length c1] : LV).toArray, iv r.2.2.2.2.2.2]) ∧ RdS Z' cS 1 A1 c1 r.2.2.2.2.2.1 ∧ Inv w0 Z' w' A) := by
 have e4 := calls_intro (R := (fun e w' => ∃ (A1 : Option Addr) (c1 : Nat) (Z' : Hp), Z.le Z' ∧ e = .returned (.tuple #[.agg ([iv r.1, .string r.2.1, .string r.2.2.1, .bool r.2.2.2.1, iv r.2.2.2.2.1, .slice A1 r.2.2.2.2.2.1.length c1] : LV).toArray, iv r.2.2.2.2.2.2]) ∧ RdS Z' cS 1 A1 c1 r.2.2.2.2.2.1 ∧ Inv w0 Z' w' A)) (w := w) (args := [.agg ([iv ud, .string ue, .string ub, .bool uf, iv ug, .slice ua uc.length uh] : LV).toArray, iv a1]) (fn := Go.Proofs.Tryd.f21) 25 Go.Proofs.Tryd.func21 (by rfl) Go.Proofs.Tryd.ntmps21 (by kernel_rfl)
 refine e4 ?_
 clear e4
 unfold rule_Extend at h0
 refine cQ ?_
 refine cR [0, 1, 2] (by kernel_rfl) ?_
 refine oC (Does.boxL (d := 2) (T := 27) (v := .agg ([iv ud, .string ue, .string ub, .bool uf, iv ug, .slice ua uc.length uh] : LV).toArray) ([iv ud, .string ue, .string ub, .bool uf, iv ug, .slice ua uc.length uh] : LV) (by kernel_rfl) hI (by kernel_rfl) ?_)
 intro b1 w hI
 refine oC (Does.allocL (d := 4) (T := 27) ((([iv 0, .string (⟨#[]⟩ : ByteArray), .string (⟨#[]⟩ : ByteArray), .bool false, iv 0, .slice none 0 0] : LV))) (by kernel_rfl) ty27 hI (by kernel_rfl) ?_)
 intro b2 w hI
 refine oP (r := []) [2] (S' := [(1, iv a1), (2, pb b1), (4, pb b2)]) (by kernel_rfl) ?_
 refine oD ?_
 refine qT ?_
 refine cQ ?_
 refine CodT.block ?_
 refine cQ ?_
 refine cR [0, 1, 2, 3] (by kernel_rfl) ?_
 refine oP (r := [1, 2, 3]) [0] (S' := [(1, iv a1), (2, pb b1), (4, pb b2), (7, .pointer (some ⟨b1, 3, none⟩))]) (by kernel_rfl) ?_
 refine oC (Does.yi (Yl.load (d := 8) (T := 4) (v := .bool uf) (by kernel_rfl) (ldB ty4 (l := ([iv ud, .string ue, .string ub, .bool uf, iv ug, .slice ua uc.length uh] : LV)) (o := 3) (v := .bool uf) (pick2 _ _ _) (by kernel_rfl))) hI ?_)
 refine oP (r := []) [2, 3] (S' := [(1, iv a1), (2, pb b1), (4, pb b2), (6, .bool (!uf))]) (by kernel_rfl) ?_
 refine oD ?_
 refine qT ?_
 by_cases hb3 : (!uf) = true
 ·
  rw [if_pos hb3] at h0
  refine CodT.yes' (b := !uf) (by kernel_rfl) hb3 ?_
  refine cQ ?_
  refine cR [0, 1, 2] (by kernel_rfl) ?_
  refine oC (Does.yi (Yl.load (d := 10) (T := 27) (v := .agg ([iv ud, .string ue, .string ub, .bool uf, iv ug, .slice ua uc.length uh] : LV).toArray) (by kernel_rfl) (ldBN ty27 (l := ([iv ud, .string ue, .string ub, .bool uf, iv ug, .slice ua uc.length uh] : LV)) (o := 0) (cs := ([iv ud, .string ue, .string ub, .bool uf, iv ug, .slice ua uc.length uh] : LV)) (pick2 _ _ _) (by kernel_rfl) (whole _ _ (by kernel_rfl)))) hI ?_)
  refine oC (dS (T := 27) (b := b2) (o := 0) (v := .agg ([iv ud, .string ue, .string ub, .bool uf, iv ug, .slice ua uc.length uh] : LV).toArray) (l := (([iv 0, .string (⟨#[]⟩ : ByteArray), .string (⟨#[]⟩ : ByteArray), .bool false, iv 0, .slice none 0 0] : LV))) (vs := ([iv ud, .string ue, .string ub, .bool uf, iv ug, .slice ua uc.length uh] : LV)) (L' := ([iv ud, .string ue, .string ub, .bool uf, iv ug, .slice ua uc.length uh] : LV)) (by kernel_rfl) ty27 hI (by kernel_rfl) (by kernel_rfl) (by kernel_rfl) (by kernel_rfl) (by kernel_rfl) ?_)
  intro w hI
  refine oP (r := []) [2] (S' := [(4, pb b2), (5, iv 6)]) (by kernel_rfl) ?_
  refine oD ?_
  refine qT ?_
  refine CodT.ret ?_
  refine Qn.block_ret ?_
  refine Qn.ret_then ?_
  have hL4 := (ldBN ty27 (l := ([iv ud, .string ue, .string ub, .bool uf, iv ug, .slice ua uc.length uh] : LV)) (o := 0) (cs := ([iv ud, .string ue, .string ub, .bool uf, iv ug, .slice ua uc.length uh] : LV)) (ent_refl _) (by kernel_rfl) (whole _ _ (by kernel_rfl))) w hI
  have hI := hI.drop
  have hI := hI.drop
  have e := someS h0
  subst e
  refine qK [4, 5] (S' := [(4, pb b2), (5, iv 6)]) (by kernel_rfl) ?_
  exact post_ret (v := .tuple #[.agg ([iv ud, .string ue, .string ub, .bool uf, iv ug, .slice ua uc.length uh] : LV).toArray, iv 6]) (fun a ha => RunRes.run (vs := [.agg ([iv ud, .string ue, .string ub, .bool uf, iv ug, .slice ua uc.length uh] : LV).toArray, iv 6]) (.cell (t := 4) (T := 27) (ad := ⟨b2, 0, none⟩) (by kernel_rfl) hL4 (.tmp (t := 5) (by kernel_rfl) .nil)) ha (by kernel_rfl)) ⟨ua, uh, Z, Hp.le_refl _, rfl, ui, hI⟩
 ·
  rw [if_neg hb3] at h0
  refine CodT.no' (b := !uf) (by kernel_rfl) (by simpa using hb3) ?_
  refine cQ ?_
  refine cR [0, 1, 2, 3] (by kernel_rfl) ?_
  refine oP (r := [1, 2, 3]) [0] (S' := [(1, iv a1), (2, pb b1), (4, pb b2), (12, iv a1)]) (by kernel_rfl) ?_
  obtain ⟨y6, hc5, h0⟩ := bindS h0
  try dsimp only at h0
  refine oC (Does.call (d := some 13) (n := 33) (vs := [iv a1]) (by kernel_rfl) en33 (c33 w0 w _ _ hI hT a1 _ hc5) ?_)
  rintro e w ⟨rfl, hI⟩
  refine ⟨_, rfl, ?_⟩
  refine oP (r := []) [2, 3] (S' := [(1, iv a1), (2, pb b1), (4, pb b2), (11, .bool (!y6))]) (by kernel_rfl) ?_
  refine oD ?_
  refine qT ?_
  by_cases hb7 : (!y6) = true
  ·
   rw [if_pos hb7] at h0
   refine CodT.yes' (b := !y6) (by kernel_rfl) hb7 ?_
   refine cQ ?_
   refine cR [0, 1, 2] (by kernel_rfl) ?_
   refine oC (Does.yi (Yl.load (d := 15) (T := 27) (v := .agg ([iv ud, .string ue, .string ub, .bool uf, iv ug, .slice ua uc.length uh] : LV).toArray) (by kernel_rfl) (ldBN ty27 (l := ([iv ud, .string ue, .string ub, .bool uf, iv ug, .slice ua uc.length uh] : LV)) (o := 0) (cs := ([iv ud, .string ue, .string ub, .bool uf, iv ug, .slice ua uc.length uh] : LV)) (pick2 _ _ _) (by kernel_rfl) (whole _ _ (by kernel_rfl)))) hI ?_)
   refine oC (dS (T := 27) (b := b2) (o := 0) (v := .agg ([iv ud, .string ue, .string ub, .bool uf, iv ug, .slice ua uc.length uh] : LV).toArray) (l := (([iv 0, .string (⟨#[]⟩ : ByteArray), .string (⟨#[]⟩ : ByteArray), .bool false, iv 0, .slice none 0 0] : LV))) (vs := ([iv ud, .string ue, .string ub, .bool uf, iv ug, .slice ua uc.length uh] : LV)) (L' := ([iv ud, .string ue, .string ub, .bool uf, iv ug, .slice ua uc.length uh] : LV)) (by kernel_rfl) ty27 hI (by kernel_rfl) (by kernel_rfl) (by kernel_rfl) (by kernel_rfl) (by kernel_rfl) ?_)
   intro w hI
   refine oP (r := []) [2] (S' := [(4, pb b2), (5, iv 1)]) (by kernel_rfl) ?_
   refine oD ?_
   refine qT ?_
   refine CodT.ret ?_
   refine Qn.block_ret ?_
   refine Qn.ret_then ?_
   have hL8 := (ldBN ty27 (l := ([iv ud, .string ue, .string ub, .bool uf, iv ug, .slice ua uc.length uh] : LV)) (o := 0) (cs := ([iv ud, .string ue, .string ub, .bool uf, iv ug, .slice ua uc.length uh] : LV)) (ent_refl _) (by kernel_rfl) (whole _ _ (by kernel_rfl))) w hI
   have hI := hI.drop
   have hI := hI.drop
   have e := someS h0
   subst e
   refine qK [4, 5] (S' := [(4, pb b2), (5, iv 1)]) (by kernel_rfl) ?_
   exact post_ret (v := .tuple #[.agg ([iv ud, .string ue, .string ub, .bool uf, iv ug, .slice ua uc.length uh] : LV).toArray, iv 1]) (fun a ha => RunRes.run (vs := [.agg ([iv ud, .string ue, .string ub, .bool uf, iv ug, .slice ua uc.length uh] : LV).toArray, iv 1]) (.cell (t := 4) (T := 27) (ad := ⟨b2, 0, none⟩) (by kernel_rfl) hL8 (.tmp (t := 5) (by kernel_rfl) .nil)) ha (by kernel_rfl)) ⟨ua, uh, Z, Hp.le_refl _, rfl, ui, hI⟩
  ·
   rw [if_neg hb7] at h0
   refine CodT.no' (b := !y6) (by kernel_rfl) (by simpa using hb7) ?_
   refine cQ ?_
   refine cR [0, 1, 2, 3, 4] (by kernel_rfl) ?_
   refine oP (r := [2, 3, 4]) [0, 1] (S' := [(1, iv a1), (2, pb b1), (4, pb b2), (17, iv a1), (18, .pointer (some ⟨b1, 4, none⟩))]) (by kernel_rfl) ?_
   refine oC (Does.yi (Yl.load (d := 19) (T := 3) (v := iv ug) (by kernel_rfl) (ldB ty3 (l := ([iv ud, .string ue, .string ub, .bool uf, iv ug, .slice ua uc.length uh] : LV)) (o := 4) (v := iv ug) (pick2 _ _ _) (by kernel_rfl))) hI ?_)
   refine oP (r := []) [3, 4] (S' := [(1, iv a1), (2, pb b1), (4, pb b2), (16, .bool (decide (a1 < ug)))]) (by kernel_rfl) ?_
   refine oD ?_
   refine qT ?_
   by_cases hb9 : (decide (a1 < ug)) = true
   ·
    rw [if_pos hb9] at h0
    refine CodT.yes' (b := decide (a1 < ug)) (by kernel_rfl) hb9 ?_
    refine cQ ?_
    refine cR [0, 1, 2] (by kernel_rfl) ?_
    refine oC (Does.yi (Yl.load (d := 21) (T := 27) (v := .agg ([iv ud, .string ue, .string ub, .bool uf, iv ug, .slice ua uc.length uh] : LV).toArray) (by kernel_rfl) (ldBN ty27 (l := ([iv ud, .string ue, .string ub, .bool uf, iv ug, .slice ua uc.length uh] : LV)) (o := 0) (cs := ([iv ud, .string ue, .string ub, .bool uf, iv ug, .slice ua uc.length uh] : LV)) (pick2 _ _ _) (by kernel_rfl) (whole _ _ (by kernel_rfl)))) hI ?_)
    refine oC (dS (T := 27) (b := b2) (o := 0) (v := .agg ([iv ud, .string ue, .string ub, .bool uf, iv ug, .slice ua uc.length uh] : LV).toArray) (l := (([iv 0, .string (⟨#[]⟩ : ByteArray), .string (⟨#[]⟩ : ByteArray), .bool false, iv 0, .slice none 0 0] : LV))) (vs := ([iv ud, .string ue, .string ub, .bool uf, iv ug, .slice ua uc.length uh] : LV)) (L' := ([iv ud, .string ue, .string ub, .bool uf, iv ug, .slice ua uc.length uh] : LV)) (by kernel_rfl) ty27 hI (by kernel_rfl) (by kernel_rfl) (by kernel_rfl) (by kernel_rfl) (by kernel_rfl) ?_)
    intro w hI
    refine oP (r := []) [2] (S' := [(4, pb b2), (5, iv 7)]) (by kernel_rfl) ?_
    refine oD ?_
    refine qT ?_
    refine CodT.ret ?_
    refine Qn.block_ret ?_
    refine Qn.ret_then ?_
    have hL10 := (ldBN ty27 (l := ([iv ud, .string ue, .string ub, .bool uf, iv ug, .slice ua uc.length uh] : LV)) (o := 0) (cs := ([iv ud, .string ue, .string ub, .bool uf, iv ug, .slice ua uc.length uh] : LV)) (ent_refl _) (by kernel_rfl) (whole _ _ (by kernel_rfl))) w hI
    have hI := hI.drop
    have hI := hI.drop
    have e := someS h0
    subst e
    refine qK [4, 5] (S' := [(4, pb b2), (5, iv 7)]) (by kernel_rfl) ?_
    exact post_ret (v := .tuple #[.agg ([iv ud, .string ue, .string ub, .bool uf, iv ug, .slice ua uc.length uh] : LV).toArray, iv 7]) (fun a ha => RunRes.run (vs := [.agg ([iv ud, .string ue, .string ub, .bool uf, iv ug, .slice ua uc.length uh] : LV).toArray, iv 7]) (.cell (t := 4) (T := 27) (ad := ⟨b2, 0, none⟩) (by kernel_rfl) hL10 (.tmp (t := 5) (by kernel_rfl) .nil)) ha (by kernel_rfl)) ⟨ua, uh, Z, Hp.le_refl _, rfl, ui, hI⟩
   ·
    rw [if_neg hb9] at h0
    refine CodT.no' (b := decide (a1 < ug)) (by kernel_rfl) (by simpa using hb9) ?_
    refine CodT.skip ?_
    refine Qn.block_normal ?_
    refine qT ?_
    refine cQ ?_
    refine cR [0, 1, 2] (by kernel_rfl) ?_
    refine oP (r := [2]) [0, 1] (S' := [(2, pb b1), (4, pb b2), (22, iv a1), (23, .pointer (some ⟨b1, 4, none⟩))]) (by kernel_rfl) ?_
    have hI := hI.mono (pick2 _ _ _)
    refine oC (dS (T := 3) (b := b1) (o := 4) (v := iv a1) (l := ([iv ud, .string ue, .string ub, .bool uf, iv ug, .slice ua uc.length uh] : LV)) (vs := ([iv a1] : LV)) (L' := ([iv ud, .string ue, .string ub, .bool uf, iv a1, .slice ua uc.length uh] : LV)) (by kernel_rfl) ty3 hI (by kernel_rfl) (by kernel_rfl) (by kernel_rfl) (by kernel_rfl) (by kernel_rfl) ?_)
    intro w hI
    refine oD ?_
    refine qT ?_
    refine cQ ?_
    refine cR [0, 1, 2] (by kernel_rfl) ?_
    refine oC (Does.yi (Yl.load (d := 24) (T := 27) (v := .agg ([iv ud, .string ue, .string ub, .bool uf, iv a1, .slice ua uc.length uh] : LV).toArray) (by kernel_rfl) (ldBN ty27 (l := ([iv ud, .string ue, .string ub, .bool uf, iv a1, .slice ua uc.length uh] : LV)) (o := 0) (cs := ([iv ud, .string ue, .string ub, .bool uf, iv a1, .slice ua uc.length uh] : LV)) (ent_refl _) (by kernel_rfl) (whole _ _ (by kernel_rfl)))) hI ?_)
    have hI := hI.mono (pick2 _ _ _)
    refine oC (dS (T := 27) (b := b2) (o := 0) (v := .agg ([iv ud, .string ue, .string ub, .bool uf, iv a1, .slice ua uc.length uh] : LV).toArray) (l := (([iv 0, .string (⟨#[]⟩ : ByteArray), .string (⟨#[]⟩ : ByteArray), .bool false, iv 0, .slice none 0 0] : LV))) (vs := ([iv ud, .string ue, .string ub, .bool uf, iv a1, .slice ua uc.length uh] : LV)) (L' := ([iv ud, .string ue, .string ub, .bool uf, iv a1, .slice ua uc.length uh] : LV)) (by kernel_rfl) ty27 hI (by kernel_rfl) (by kernel_rfl) (by kernel_rfl) (by kernel_rfl) (by kernel_rfl) ?_)
    intro w hI
    refine oP (r := []) [2] (S' := [(4, pb b2), (5, iv 0)]) (by kernel_rfl) ?_
    refine oD ?_
    refine qT ?_
    refine CodT.ret ?_
    have hL11 := (ldBN ty27 (l := ([iv ud, .string ue, .string ub, .bool uf, iv a1, .slice ua uc.length uh] : LV)) (o := 0) (cs := ([iv ud, .string ue, .string ub, .bool uf, iv a1, .slice ua uc.length uh] : LV)) (ent_refl _) (by kernel_rfl) (whole _ _ (by kernel_rfl))) w hI
    have hI := hI.drop
    have hI := hI.drop
    have e := someS h0
    subst e
    refine qK [4, 5] (S' := [(4, pb b2), (5, iv 0)]) (by kernel_rfl) ?_
    exact post_ret (v := .tuple #[.agg ([iv ud, .string ue, .string ub, .bool uf, iv a1, .slice ua uc.length uh] : LV).toArray, iv 0]) (fun a ha => RunRes.run (vs := [.agg ([iv ud, .string ue, .string ub, .bool uf, iv a1, .slice ua uc.length uh] : LV).toArray, iv 0]) (.cell (t := 4) (T := 27) (ad := ⟨b2, 0, none⟩) (by kernel_rfl) hL11 (.tmp (t := 5) (by kernel_rfl) .nil)) ha (by kernel_rfl)) ⟨ua, uh, Z, Hp.le_refl _, rfl, ui, hI⟩
/-- cenotaph/rule.due -/
theorem c32 (w0 w : World) (Z : Hp) (A : HP) (hI : Inv w0 Z w A) (hT : Tabs Z) (A_a0 : Option Addr) (c_a0 : Nat) (a0 : (List ApiFile)) (hr_a0 : RdX_ApiFile Z A_a0 c_a0 a0) (a1 : Int) (r : ((List ApiFile) × Int)) (h0 : rule_due a0 a1 = some r) :
  Calls prog 32 #[.slice A_a0 a0.length c_a0, iv a1] w (fun e w' => ∃ (b1 : Nat) (A2 : Option Addr) (c2 : Nat) (b3 : Nat) (Z' : Hp), Z.le Z' ∧ e = .returned (.func (.func 56) #[] #[pb b1, pb b3]) ∧ RdX_ApiFile Z' A2 c2 r.1 ∧ Z' b1 = some (.cells ([.slice A2 r.1.length c2] : LV).toArray 22 (0, 0)) ∧ Z' b3 = some (.cells ([iv r.2] : LV).toArray 3 (0, 0)) ∧ Inv w0 Z' w' A) := by
 have e4 := calls_intro (R := (fun e w' => ∃ (b1 : Nat) (A2 : Option Addr) (c2 : Nat) (b3 : Nat) (Z' : Hp), Z.le Z' ∧ e = .returned (.func (.func 56) #[] #[pb b1, pb b3]) ∧ RdX_ApiFile Z' A2 c2 r.1 ∧ Z' b1 = some (.cells ([.slice A2 r.1.length c2] : LV).toArray 22 (0, 0)) ∧ Z' b3 = some (.cells ([iv r.2] : LV).toArray 3 (0, 0)) ∧ Inv w0 Z' w' A)) (w := w) (args := [.slice A_a0 a0.length c_a0, iv a1]) (fn := Go.Proofs.Tryd.f32) 6 Go.Proofs.Tryd.func32 (by rfl) Go.Proofs.Tryd.ntmps32 (by kernel_rfl)
 refine e4 ?_
 clear e4
 unfold rule_due at h0
 refine cQ ?_
 refine cR [0, 1, 2] (by kernel_rfl) ?_
 refine oC (Does.boxL (d := 2) (T := 22) (v := .slice A_a0 a0.length c_a0) ([.slice A_a0 a0.length c_a0] : LV) (by kernel_rfl) hI (by kernel_rfl) ?_)
 intro b1 w hI
 refine oC (Does.boxL (d := 3) (T := 3) (v := iv a1) ([iv a1] : LV) (by kernel_rfl) hI (by kernel_rfl) ?_)
 intro b2 w hI
 refine oP (r := []) [2] (S' := [(2, pb b1), (3, pb b2)]) (by kernel_rfl) ?_
 refine oD ?_
 refine qT ?_
 refine cQ ?_
 have hI := hI.mono (pick2 _ _ _)
 obtain ⟨Z3, hle4, hz5, hI⟩ := pt_freeze hI
 obtain ⟨Z6, hle7, hz8, hI⟩ := pt_freeze hI
 refine cR [0, 1] (by kernel_rfl) ?_
 refine oP (r := []) [0, 1] (S' := [(4, .func (.func 56) #[] #[pb b1, pb b2])]) (by kernel_rfl) ?_
 refine oD ?_
 refine qT ?_
 refine CodT.ret ?_
 have e := someS h0
 subst e
 refine qK [4] (S' := [(4, .func (.func 56) #[] #[pb b1, pb b2])]) (by kernel_rfl) ?_
 exact post_ret (v := .func (.func 56) #[] #[pb b1, pb b2]) (fun a ha => RunRes.run (vs := [.func (.func 56) #[] #[pb b1, pb b2]]) (.tmp (t := 4) (by kernel_rfl) .nil) ha (by kernel_rfl)) ⟨b1, A_a0, c_a0, b2, Z6, (Hp.le_trans hle4 hle7), rfl, (hr_a0.mono (Hp.le_trans hle4 hle7)), (hle7 _ _ hz5), hz8, hI⟩
/-- cenotaph/rule.May -/
theorem c13 (w0 w : World) (Z : Hp) (A : HP) (hI : Inv w0 Z w A) (hT : Tabs Z) (ud : Int) (ue : ByteArray) (ub : ByteArray) (uf : Bool) (ug : Int) (ua : Option Addr) (uh : Nat) (uc : (List ByteArray)) (ui : RdS Z cS 1 ua uh uc) (a1 : Int) (r : Int) (h0 : rule_May ud ue ub uf ug uc a1 = some r) :
  Calls prog 13 #[.agg ([iv ud, .string ue, .string ub, .bool uf, iv ug, .slice ua uc.length uh] : LV).toArray, iv a1] w (fun e w' => e = .returned (iv r) ∧ Inv w0 Z w' A) := by
 have e4 := calls_intro (R := (fun e w' => e = .returned (iv r) ∧ Inv w0 Z w' A)) (w := w) (args := [.agg ([iv ud, .string ue, .string ub, .bool uf, iv ug, .slice ua uc.length uh] : LV).toArray, iv a1]) (fn := Go.Proofs.Tryd.f13) 19 Go.Proofs.Tryd.func13 (by rfl) Go.Proofs.Tryd.ntmps13 (by kernel_rfl)
 refine e4 ?_
 clear e4
 unfold rule_May at h0
 refine cQ ?_
 refine cR [0, 1] (by kernel_rfl) ?_
 refine oC (Does.boxL (d := 2) (T := 27) (v := .agg ([iv ud, .string ue, .string ub, .bool uf, iv ug, .slice ua uc.length uh] : LV).toArray) ([iv ud, .string ue, .string ub, .bool uf, iv ug, .slice ua uc.length uh] : LV) (by kernel_rfl) hI (by kernel_rfl) ?_)
 intro b1 w hI
 refine oP (r := []) [1] (S' := [(1, iv a1), (2, pb b1)]) (by kernel_rfl) ?_
 refine oD ?_
 refine qT ?_
 refine cQ ?_
 refine CodT.block ?_
 refine cQ ?_
 refine cR [0, 1, 2, 3] (by kernel_rfl) ?_
 refine oP (r := [1, 2, 3]) [0] (S' := [(1, iv a1), (2, pb b1), (6, .pointer (some ⟨b1, 3, none⟩))]) (by kernel_rfl) ?_
 refine oC (Does.yi (Yl.load (d := 7) (T := 4) (v := .bool uf) (by kernel_rfl) (ldB ty4 (l := ([iv ud, .string ue, .string ub, .bool uf, iv ug, .slice ua uc.length uh] : LV)) (o := 3) (v := .bool uf) (ent_refl _) (by kernel_rfl))) hI ?_)
 refine oP (r := []) [2, 3] (S' := [(1, iv a1), (2, pb b1), (5, .bool (!uf))]) (by kernel_rfl) ?_
 refine oD ?_
 refine qT ?_
 by_cases hb2 : (!uf) = true
 ·
  rw [if_pos hb2] at h0
  refine CodT.yes' (b := !uf) (by kernel_rfl) hb2 ?_
  refine cQ ?_
  refine cR [0] (by kernel_rfl) ?_
  refine oP (r := []) [0] (S' := [(4, iv 6)]) (by kernel_rfl) ?_
  refine oD ?_
  refine qT ?_
  refine CodT.ret ?_
  refine Qn.block_ret ?_
  refine Qn.ret_then ?_
  have hI := hI.drop
  have e := someS h0
  subst e
  refine qK [4] (S' := [(4, iv 6)]) (by kernel_rfl) ?_
  exact post_ret (v := iv 6) (fun a ha => RunRes.run (vs := [iv 6]) (.tmp (t := 4) (by kernel_rfl) .nil) ha (by kernel_rfl)) ⟨rfl, hI⟩
 ·
  rw [if_neg hb2] at h0
  refine CodT.no' (b := !uf) (by kernel_rfl) (by simpa using hb2) ?_
  refine cQ ?_
  refine cR [0, 1, 2, 3, 4] (by kernel_rfl) ?_
  refine oP (r := [2, 3, 4]) [0, 1] (S' := [(2, pb b1), (10, iv a1), (11, .pointer (some ⟨b1, 4, none⟩))]) (by kernel_rfl) ?_
  refine oC (Does.yi (Yl.load (d := 12) (T := 3) (v := iv ug) (by kernel_rfl) (ldB ty3 (l := ([iv ud, .string ue, .string ub, .bool uf, iv ug, .slice ua uc.length uh] : LV)) (o := 4) (v := iv ug) (ent_refl _) (by kernel_rfl))) hI ?_)
  refine oP (r := []) [3, 4] (S' := [(2, pb b1), (9, .bool (decide (a1 < ug)))]) (by kernel_rfl) ?_
  refine oD ?_
  refine qT ?_
  by_cases hb3 : (decide (a1 < ug)) = true
  ·
   rw [if_pos hb3] at h0
   refine CodT.yes' (b := decide (a1 < ug)) (by kernel_rfl) hb3 ?_
   refine cQ ?_
   refine cR [0] (by kernel_rfl) ?_
   refine oP (r := []) [0] (S' := [(4, iv 8)]) (by kernel_rfl) ?_
   refine oD ?_
   refine qT ?_
   refine CodT.ret ?_
   refine Qn.block_ret ?_
   refine Qn.ret_then ?_
   have hI := hI.drop
   have e := someS h0
   subst e
   refine qK [4] (S' := [(4, iv 8)]) (by kernel_rfl) ?_
   exact post_ret (v := iv 8) (fun a ha => RunRes.run (vs := [iv 8]) (.tmp (t := 4) (by kernel_rfl) .nil) ha (by kernel_rfl)) ⟨rfl, hI⟩
  ·
   rw [if_neg hb3] at h0
   refine CodT.no' (b := decide (a1 < ug)) (by kernel_rfl) (by simpa using hb3) ?_
   refine cQ ?_
   refine cR [0, 1, 2, 3, 4] (by kernel_rfl) ?_
   refine oP (r := [1, 2, 3, 4]) [0] (S' := [(15, .pointer (some ⟨b1, 5, none⟩))]) (by kernel_rfl) ?_
   refine oC (Does.yi (Yl.load (d := 16) (T := 25) (v := .slice ua uc.length uh) (by kernel_rfl) (ldB ty25 (l := ([iv ud, .string ue, .string ub, .bool uf, iv ug, .slice ua uc.length uh] : LV)) (o := 5) (v := .slice ua uc.length uh) (ent_refl _) (by kernel_rfl))) hI ?_)
   refine oP (r := []) [2, 3, 4] (S' := [(14, .bool (decide ((uc.length : Int) > 0)))]) (by kernel_rfl) ?_
   refine oD ?_
   refine qT ?_
   by_cases hb4 : (decide ((uc.length : Int) > 0)) = true
   ·
    rw [if_pos hb4] at h0
    refine CodT.yes' (b := decide ((uc.length : Int) > 0)) (by kernel_rfl) hb4 ?_
    refine cQ ?_
    refine cR [0] (by kernel_rfl) ?_
    refine oP (r := []) [0] (S' := [(4, iv 9)]) (by kernel_rfl) ?_
    refine oD ?_
    refine qT ?_
    refine CodT.ret ?_
    refine Qn.block_ret ?_
    refine Qn.ret_then ?_
    have hI := hI.drop
    have e := someS h0
    subst e
    refine qK [4] (S' := [(4, iv 9)]) (by kernel_rfl) ?_
    exact post_ret (v := iv 9) (fun a ha => RunRes.run (vs := [iv 9]) (.tmp (t := 4) (by kernel_rfl) .nil) ha (by kernel_rfl)) ⟨rfl, hI⟩
   ·
    rw [if_neg hb4] at h0
    refine CodT.no' (b := decide ((uc.length : Int) > 0)) (by kernel_rfl) (by simpa using hb4) ?_
    refine CodT.skip ?_
    refine Qn.block_normal ?_
    refine qT ?_
    refine cQ ?_
    refine cR [0] (by kernel_rfl) ?_
    refine oP (r := []) [0] (S' := [(4, iv 0)]) (by kernel_rfl) ?_
    refine oD ?_
    refine qT ?_
    refine CodT.ret ?_
    have hI := hI.drop
    have e := someS h0
    subst e
    refine qK [4] (S' := [(4, iv 0)]) (by kernel_rfl) ?_
    exact post_ret (v := iv 0) (fun a ha => RunRes.run (vs := [iv 0]) (.tmp (t := 4) (by kernel_rfl) .nil) ha (by kernel_rfl)) ⟨rfl, hI⟩
end Go.Cen
