/- That the machine computes these: walks, printed by a program of ours. -/
import Derived.Test.YtlojedndicppeaaGreatDoorPx
import Derived.Test.YtlojedndicppeaaGreatDoorProg
import Derived.Laws.Externs
set_option linter.unusedVariables false
set_option linter.unusedSimpArgs false
namespace Go.Cen
set_option maxRecDepth 100000
set_option maxHeartbeats 4000000
noncomputable abbrev prog := Go.Proofs.Tryz.prog
def Tabs (Z : Hp) : Prop := TabB Z 0 .u64 tab0 ∧ True
theorem Tabs.mono {Z Z' : Hp} (h : Tabs Z) (le : Z.le Z') : Tabs Z' := ⟨h.1.mono le, trivial⟩
theorem ty3 : Ty prog 3 false 1 8 (iv 0) := ⟨by kernel_rfl, by kernel_rfl⟩
theorem ty4 : Ty prog 4 false 1 1 (.bool false) := ⟨by kernel_rfl, by kernel_rfl⟩
theorem ty5 : Ty prog 5 false 1 1 (.int .u8 0) := ⟨by kernel_rfl, by kernel_rfl⟩
theorem ty9 : Ty prog 9 false 1 16 (.string ⟨#[]⟩) := ⟨by kernel_rfl, by kernel_rfl⟩
theorem ty23 : Ty prog 23 true 32 32 (.agg (List.replicate 32 (.int .u8 0 : Value)).toArray) := ⟨by kernel_rfl, by kernel_rfl⟩
theorem ty24 : Ty prog 24 false 1 24 (.slice none 0 0) := ⟨by kernel_rfl, by kernel_rfl⟩
theorem ty26 : Ty prog 26 true 34 64 (.agg (([iv 0] : LV) ++ (List.replicate 32 (.int .u8 0 : Value)) ++ ([.slice none 0 0] : LV)).toArray) := ⟨by kernel_rfl, by kernel_rfl⟩
theorem ty27 : Ty prog 27 false 1 8 (.nilFunc) := ⟨by kernel_rfl, by kernel_rfl⟩
theorem ty32 : Ty prog 32 true 34 64 (.agg (([iv 0] : LV) ++ (List.replicate 32 (.int .u8 0 : Value)) ++ ([.slice none 0 0] : LV)).toArray) := ⟨by kernel_rfl, by kernel_rfl⟩
theorem ty36 : Ty prog 36 false 1 24 (.slice none 0 0) := ⟨by kernel_rfl, by kernel_rfl⟩
theorem ty48 : Ty prog 48 false 1 8 (iv 0) := ⟨by kernel_rfl, by kernel_rfl⟩
theorem ty50 : Ty prog 50 true 37 80 (.agg (([iv 0, iv 0, .string ⟨#[]⟩, iv 0, iv 0] : LV) ++ (List.replicate 32 (.int .u8 0 : Value))).toArray) := ⟨by kernel_rfl, by kernel_rfl⟩
theorem ty52 : Ty prog 52 false 1 24 (.slice none 0 0) := ⟨by kernel_rfl, by kernel_rfl⟩
theorem ty53 : Ty prog 53 false 1 8 (.pointer none) := ⟨by kernel_rfl, by kernel_rfl⟩
theorem ty55 : Ty prog 55 true 2 32 (.agg ([.pointer none, .slice none 0 0] : LV).toArray) := ⟨by kernel_rfl, by kernel_rfl⟩
theorem ty79 : Ty prog 79 false 1 24 (.slice none 0 0) := ⟨by kernel_rfl, by kernel_rfl⟩
theorem ty88 : Ty prog 88 false 1 16 (.nilIface) := ⟨by kernel_rfl, by kernel_rfl⟩
theorem ty90 : Ty prog 90 true 5 5 (.agg (List.replicate 5 (.bool false : Value)).toArray) := ⟨by kernel_rfl, by kernel_rfl⟩
theorem ty92 : Ty prog 92 true 8 128 (.agg (List.replicate 8 (.string ⟨#[]⟩ : Value)).toArray) := ⟨by kernel_rfl, by kernel_rfl⟩
theorem ty99 : Ty prog 99 false 1 4 (.int .u32 0) := ⟨by kernel_rfl, by kernel_rfl⟩
theorem ty100 : Ty prog 100 true 8 32 (.agg (List.replicate 8 (.int .u32 0 : Value)).toArray) := ⟨by kernel_rfl, by kernel_rfl⟩
theorem ty101 : Ty prog 101 true 64 256 (.agg (List.replicate 64 (.int .u32 0 : Value)).toArray) := ⟨by kernel_rfl, by kernel_rfl⟩
theorem ty112 : Ty prog 112 true 32 32 (.agg (List.replicate 32 (.int .u8 0 : Value)).toArray) := ⟨by kernel_rfl, by kernel_rfl⟩
theorem ty117 : Ty prog 117 true 3 32 (.agg (([iv 0, .string ⟨#[]⟩, .bool false] : LV)).toArray) := ⟨by kernel_rfl, by kernel_rfl⟩
theorem ty124 : Ty prog 124 true 3 40 (.agg (([.string ⟨#[]⟩, .string ⟨#[]⟩, .bool false] : LV)).toArray) := ⟨by kernel_rfl, by kernel_rfl⟩
theorem ty131 : Ty prog 131 false 1 8 (.pointer none) := ⟨by kernel_rfl, by kernel_rfl⟩
theorem en6 : ∀ (args : Array Value) (w : World), (callFunc 6 args).run prog w = .ok (.enter 6 args) w := fun _ _ => by kernel_rfl
theorem en7 : ∀ (args : Array Value) (w : World), (callFunc 7 args).run prog w = .ok (.enter 7 args) w := fun _ _ => by kernel_rfl
theorem en8 : ∀ (args : Array Value) (w : World), (callFunc 8 args).run prog w = .ok (.enter 8 args) w := fun _ _ => by kernel_rfl
theorem en9 : ∀ (args : Array Value) (w : World), (callFunc 9 args).run prog w = .ok (.enter 9 args) w := fun _ _ => by kernel_rfl
theorem en10 : ∀ (args : Array Value) (w : World), (callFunc 10 args).run prog w = .ok (.enter 10 args) w := fun _ _ => by kernel_rfl
theorem en11 : ∀ (args : Array Value) (w : World), (callFunc 11 args).run prog w = .ok (.enter 11 args) w := fun _ _ => by kernel_rfl
theorem en12 : ∀ (args : Array Value) (w : World), (callFunc 12 args).run prog w = .ok (.enter 12 args) w := fun _ _ => by kernel_rfl
theorem en13 : ∀ (args : Array Value) (w : World), (callFunc 13 args).run prog w = .ok (.enter 13 args) w := fun _ _ => by kernel_rfl
theorem en14 : ∀ (args : Array Value) (w : World), (callFunc 14 args).run prog w = .ok (.enter 14 args) w := fun _ _ => by kernel_rfl
theorem en15 : ∀ (args : Array Value) (w : World), (callFunc 15 args).run prog w = .ok (.enter 15 args) w := fun _ _ => by kernel_rfl
theorem en16 : ∀ (args : Array Value) (w : World), (callFunc 16 args).run prog w = .ok (.enter 16 args) w := fun _ _ => by kernel_rfl
theorem en18 : ∀ (args : Array Value) (w : World), (callFunc 18 args).run prog w = .ok (.enter 18 args) w := fun _ _ => by kernel_rfl
theorem en20 : ∀ (args : Array Value) (w : World), (callFunc 20 args).run prog w = .ok (.enter 20 args) w := fun _ _ => by kernel_rfl
theorem en21 : ∀ (args : Array Value) (w : World), (callFunc 21 args).run prog w = .ok (.enter 21 args) w := fun _ _ => by kernel_rfl
theorem en22 : ∀ (args : Array Value) (w : World), (callFunc 22 args).run prog w = .ok (.enter 22 args) w := fun _ _ => by kernel_rfl
theorem en23 : ∀ (args : Array Value) (w : World), (callFunc 23 args).run prog w = .ok (.enter 23 args) w := fun _ _ => by kernel_rfl
theorem en24 : ∀ (args : Array Value) (w : World), (callFunc 24 args).run prog w = .ok (.enter 24 args) w := fun _ _ => by kernel_rfl
theorem en25 : ∀ (args : Array Value) (w : World), (callFunc 25 args).run prog w = .ok (.enter 25 args) w := fun _ _ => by kernel_rfl
theorem en26 : ∀ (args : Array Value) (w : World), (callFunc 26 args).run prog w = .ok (.enter 26 args) w := fun _ _ => by kernel_rfl
theorem en27 : ∀ (args : Array Value) (w : World), (callFunc 27 args).run prog w = .ok (.enter 27 args) w := fun _ _ => by kernel_rfl
theorem en28 : ∀ (args : Array Value) (w : World), (callFunc 28 args).run prog w = .ok (.enter 28 args) w := fun _ _ => by kernel_rfl
theorem en29 : ∀ (args : Array Value) (w : World), (callFunc 29 args).run prog w = .ok (.enter 29 args) w := fun _ _ => by kernel_rfl
theorem en30 : ∀ (args : Array Value) (w : World), (callFunc 30 args).run prog w = .ok (.enter 30 args) w := fun _ _ => by kernel_rfl
theorem en31 : ∀ (args : Array Value) (w : World), (callFunc 31 args).run prog w = .ok (.enter 31 args) w := fun _ _ => by kernel_rfl
theorem en32 : ∀ (args : Array Value) (w : World), (callFunc 32 args).run prog w = .ok (.enter 32 args) w := fun _ _ => by kernel_rfl
theorem en33 : ∀ (args : Array Value) (w : World), (callFunc 33 args).run prog w = .ok (.enter 33 args) w := fun _ _ => by kernel_rfl
theorem en34 : ∀ (args : Array Value) (w : World), (callFunc 34 args).run prog w = .ok (.enter 34 args) w := fun _ _ => by kernel_rfl
theorem en35 : ∀ (args : Array Value) (w : World), (callFunc 35 args).run prog w = .ok (.enter 35 args) w := fun _ _ => by kernel_rfl
theorem en36 : ∀ (args : Array Value) (w : World), (callFunc 36 args).run prog w = .ok (.enter 36 args) w := fun _ _ => by kernel_rfl
theorem en37 : ∀ (args : Array Value) (w : World), (callFunc 37 args).run prog w = .ok (.enter 37 args) w := fun _ _ => by kernel_rfl
theorem en38 : ∀ (args : Array Value) (w : World), (callFunc 38 args).run prog w = .ok (.enter 38 args) w := fun _ _ => by kernel_rfl
theorem en39 : ∀ (args : Array Value) (w : World), (callFunc 39 args).run prog w = .ok (.enter 39 args) w := fun _ _ => by kernel_rfl
theorem en40 : ∀ (args : Array Value) (w : World), (callFunc 40 args).run prog w = .ok (.enter 40 args) w := fun _ _ => by kernel_rfl
theorem en41 : ∀ (args : Array Value) (w : World), (callFunc 41 args).run prog w = .ok (.enter 41 args) w := fun _ _ => by kernel_rfl
theorem en46 : ∀ (args : Array Value) (w : World), (callFunc 46 args).run prog w = .ok (.enter 46 args) w := fun _ _ => by kernel_rfl
theorem en47 : ∀ (args : Array Value) (w : World), (callFunc 47 args).run prog w = .ok (.enter 47 args) w := fun _ _ => by kernel_rfl
theorem en49 : ∀ (args : Array Value) (w : World), (callFunc 49 args).run prog w = .ok (.enter 49 args) w := fun _ _ => by kernel_rfl
theorem en50 : ∀ (args : Array Value) (w : World), (callFunc 50 args).run prog w = .ok (.enter 50 args) w := fun _ _ => by kernel_rfl
theorem en51 : ∀ (args : Array Value) (w : World), (callFunc 51 args).run prog w = .ok (.enter 51 args) w := fun _ _ => by kernel_rfl
theorem en52 : ∀ (args : Array Value) (w : World), (callFunc 52 args).run prog w = .ok (.enter 52 args) w := fun _ _ => by kernel_rfl
theorem en53 : ∀ (args : Array Value) (w : World), (callFunc 53 args).run prog w = .ok (.enter 53 args) w := fun _ _ => by kernel_rfl
theorem en54 : ∀ (args : Array Value) (w : World), (callFunc 54 args).run prog w = .ok (.enter 54 args) w := fun _ _ => by kernel_rfl
theorem en55 : ∀ (args : Array Value) (w : World), (callFunc 55 args).run prog w = .ok (.enter 55 args) w := fun _ _ => by kernel_rfl
theorem en56 : ∀ (args : Array Value) (w : World), (callFunc 56 args).run prog w = .ok (.enter 56 args) w := fun _ _ => by kernel_rfl
theorem en57 : ∀ (args : Array Value) (w : World), (callFunc 57 args).run prog w = .ok (.enter 57 args) w := fun _ _ => by kernel_rfl
theorem en58 : ∀ (args : Array Value) (w : World), (callFunc 58 args).run prog w = .ok (.enter 58 args) w := fun _ _ => by kernel_rfl
theorem en59 : ∀ (args : Array Value) (w : World), (callFunc 59 args).run prog w = .ok (.enter 59 args) w := fun _ _ => by kernel_rfl
theorem en60 : ∀ (args : Array Value) (w : World), (callFunc 60 args).run prog w = .ok (.enter 60 args) w := fun _ _ => by kernel_rfl
theorem en61 : ∀ (args : Array Value) (w : World), (callFunc 61 args).run prog w = .ok (.enter 61 args) w := fun _ _ => by kernel_rfl
theorem en62 : ∀ (args : Array Value) (w : World), (callFunc 62 args).run prog w = .ok (.enter 62 args) w := fun _ _ => by kernel_rfl
theorem en63 : ∀ (args : Array Value) (w : World), (callFunc 63 args).run prog w = .ok (.enter 63 args) w := fun _ _ => by kernel_rfl
theorem en64 : ∀ (args : Array Value) (w : World), (callFunc 64 args).run prog w = .ok (.enter 64 args) w := fun _ _ => by kernel_rfl
theorem en65 : ∀ (args : Array Value) (w : World), (callFunc 65 args).run prog w = .ok (.enter 65 args) w := fun _ _ => by kernel_rfl
theorem en68 : ∀ (args : Array Value) (w : World), (callFunc 68 args).run prog w = .ok (.enter 68 args) w := fun _ _ => by kernel_rfl
theorem en69 : ∀ (args : Array Value) (w : World), (callFunc 69 args).run prog w = .ok (.enter 69 args) w := fun _ _ => by kernel_rfl
theorem en70 : ∀ (args : Array Value) (w : World), (callFunc 70 args).run prog w = .ok (.enter 70 args) w := fun _ _ => by kernel_rfl
theorem en72 : ∀ (args : Array Value) (w : World), (callFunc 72 args).run prog w = .ok (.enter 72 args) w := fun _ _ => by kernel_rfl
theorem en73 : ∀ (args : Array Value) (w : World), (callFunc 73 args).run prog w = .ok (.enter 73 args) w := fun _ _ => by kernel_rfl
theorem en74 : ∀ (args : Array Value) (w : World), (callFunc 74 args).run prog w = .ok (.enter 74 args) w := fun _ _ => by kernel_rfl
theorem en75 : ∀ (args : Array Value) (w : World), (callFunc 75 args).run prog w = .ok (.enter 75 args) w := fun _ _ => by kernel_rfl
theorem en77 : ∀ (args : Array Value) (w : World), (callFunc 77 args).run prog w = .ok (.enter 77 args) w := fun _ _ => by kernel_rfl
theorem en78 : ∀ (args : Array Value) (w : World), (callFunc 78 args).run prog w = .ok (.enter 78 args) w := fun _ _ => by kernel_rfl
theorem en79 : ∀ (args : Array Value) (w : World), (callFunc 79 args).run prog w = .ok (.enter 79 args) w := fun _ _ => by kernel_rfl
theorem en80 : ∀ (args : Array Value) (w : World), (callFunc 80 args).run prog w = .ok (.enter 80 args) w := fun _ _ => by kernel_rfl
theorem en81 : ∀ (args : Array Value) (w : World), (callFunc 81 args).run prog w = .ok (.enter 81 args) w := fun _ _ => by kernel_rfl
theorem en82 : ∀ (args : Array Value) (w : World), (callFunc 82 args).run prog w = .ok (.enter 82 args) w := fun _ _ => by kernel_rfl
theorem en83 : ∀ (args : Array Value) (w : World), (callFunc 83 args).run prog w = .ok (.enter 83 args) w := fun _ _ => by kernel_rfl
theorem en84 : ∀ (args : Array Value) (w : World), (callFunc 84 args).run prog w = .ok (.enter 84 args) w := fun _ _ => by kernel_rfl
theorem en85 : ∀ (args : Array Value) (w : World), (callFunc 85 args).run prog w = .ok (.enter 85 args) w := fun _ _ => by kernel_rfl
theorem en88 : ∀ (args : Array Value) (w : World), (callFunc 88 args).run prog w = .ok (.enter 88 args) w := fun _ _ => by kernel_rfl
theorem en89 : ∀ (args : Array Value) (w : World), (callFunc 89 args).run prog w = .ok (.enter 89 args) w := fun _ _ => by kernel_rfl
theorem en90 : ∀ (args : Array Value) (w : World), (callFunc 90 args).run prog w = .ok (.enter 90 args) w := fun _ _ => by kernel_rfl
theorem en91 : ∀ (args : Array Value) (w : World), (callFunc 91 args).run prog w = .ok (.enter 91 args) w := fun _ _ => by kernel_rfl
theorem en92 : ∀ (args : Array Value) (w : World), (callFunc 92 args).run prog w = .ok (.enter 92 args) w := fun _ _ => by kernel_rfl
theorem en93 : ∀ (args : Array Value) (w : World), (callFunc 93 args).run prog w = .ok (.enter 93 args) w := fun _ _ => by kernel_rfl
theorem en94 : ∀ (args : Array Value) (w : World), (callFunc 94 args).run prog w = .ok (.enter 94 args) w := fun _ _ => by kernel_rfl
theorem en95 : ∀ (args : Array Value) (w : World), (callFunc 95 args).run prog w = .ok (.enter 95 args) w := fun _ _ => by kernel_rfl
theorem en100 : ∀ (args : Array Value) (w : World), (callFunc 100 args).run prog w = .ok (.enter 100 args) w := fun _ _ => by kernel_rfl
theorem en101 : ∀ (args : Array Value) (w : World), (callFunc 101 args).run prog w = .ok (.enter 101 args) w := fun _ _ => by kernel_rfl
theorem en107 : ∀ (args : Array Value) (w : World), (callFunc 107 args).run prog w = .ok (.enter 107 args) w := fun _ _ => by kernel_rfl
theorem en108 : ∀ (args : Array Value) (w : World), (callFunc 108 args).run prog w = .ok (.enter 108 args) w := fun _ _ => by kernel_rfl
theorem en109 : ∀ (args : Array Value) (w : World), (callFunc 109 args).run prog w = .ok (.enter 109 args) w := fun _ _ => by kernel_rfl
theorem en115 : ∀ (args : Array Value) (w : World), (callFunc 115 args).run prog w = .ok (.enter 115 args) w := fun _ _ => by kernel_rfl
theorem en137 : ∀ (args : Array Value) (w : World), (callFunc 137 args).run prog w = .ok (.enter 137 args) w := fun _ _ => by kernel_rfl
theorem en138 : ∀ (args : Array Value) (w : World), (callFunc 138 args).run prog w = .ok (.enter 138 args) w := fun _ _ => by kernel_rfl
theorem en139 : ∀ (args : Array Value) (w : World), (callFunc 139 args).run prog w = .ok (.enter 139 args) w := fun _ _ => by kernel_rfl
theorem en140 : ∀ (args : Array Value) (w : World), (callFunc 140 args).run prog w = .ok (.enter 140 args) w := fun _ _ => by kernel_rfl
theorem en141 : ∀ (args : Array Value) (w : World), (callFunc 141 args).run prog w = .ok (.enter 141 args) w := fun _ _ => by kernel_rfl
theorem en142 : ∀ (args : Array Value) (w : World), (callFunc 142 args).run prog w = .ok (.enter 142 args) w := fun _ _ => by kernel_rfl
theorem en144 : ∀ (args : Array Value) (w : World), (callFunc 144 args).run prog w = .ok (.enter 144 args) w := fun _ _ => by kernel_rfl
theorem en150 : ∀ (args : Array Value) (w : World), (callFunc 150 args).run prog w = .ok (.enter 150 args) w := fun _ _ => by kernel_rfl
theorem ext71 (v : Value) (w : World) : (callFunc 71 #[v]).run prog w = .ok (.value v) w := by kernel_rfl
theorem ext116 (a b : Int) (w : World) : (callFunc 116 #[.int .u64 a, .int .u64 b, .int .u64 0]).run prog w = .ok (.value (.tuple #[.int .u64 (add64s a b), .int .u64 (add64c a b)])) w := by kernel_rfl

def renI : Go.Shelf.Ren := ⟨fun | 129 => 111 | 243 => 56 | 246 => 76 | 283 => 96 | 284 => 97 | 285 => 98 | 286 => 99 | 317 => 110 | 318 => 112 | 319 => 113 | 320 => 114 | 337 => 117 | 338 => 118 | n => n, fun | 0 => 0 | 2 => 2 | 3 => 3 | 4 => 4 | 5 => 5 | 9 => 9 | 20 => 20 | 37 => 52 | 46 => 83 | 51 => 99 | 53 => 135 | 171 => 144 | 173 => 147 | 212 => 157 | 213 => 158 | 232 => 22 | 233 => 164 | n => n, fun | 17 => 0 | 18 => 1 | 19 => 2 | n => n⟩
theorem layI : Go.Proofs.LaysM.n243 prog renI := { mixed := by kernel_rfl, f129 := by kernel_rfl, f243 := by kernel_rfl, f246 := by kernel_rfl, f283 := by kernel_rfl, f284 := by kernel_rfl, f285 := by kernel_rfl, f286 := by kernel_rfl, f317 := by kernel_rfl, f318 := by kernel_rfl, f319 := by kernel_rfl, f320 := by kernel_rfl, f337 := by kernel_rfl, f338 := by kernel_rfl, t0 := Go.Proofs.Tryz.underlying0, a0 := fun _ => by kernel_rfl, z0 := fun _ => by kernel_rfl, v0 := fun _ => by kernel_rfl, t2 := Go.Proofs.Tryz.underlying2, a2 := fun _ => by kernel_rfl, z2 := fun _ => by kernel_rfl, v2 := fun _ => by kernel_rfl, t3 := Go.Proofs.Tryz.underlying3, a3 := fun _ => by kernel_rfl, z3 := fun _ => by kernel_rfl, v3 := fun _ => by kernel_rfl, t4 := Go.Proofs.Tryz.underlying4, a4 := fun _ => by kernel_rfl, z4 := fun _ => by kernel_rfl, v4 := fun _ => by kernel_rfl, t5 := Go.Proofs.Tryz.underlying5, a5 := fun _ => by kernel_rfl, z5 := fun _ => by kernel_rfl, v5 := fun _ => by kernel_rfl, t9 := Go.Proofs.Tryz.underlying9, a9 := fun _ => by kernel_rfl, z9 := fun _ => by kernel_rfl, v9 := fun _ => by kernel_rfl, t20 := Go.Proofs.Tryz.underlying20, a20 := fun _ => by kernel_rfl, z20 := fun _ => by kernel_rfl, v20 := fun _ => by kernel_rfl, t37 := Go.Proofs.Tryz.underlying52, a37 := fun _ => by kernel_rfl, z37 := fun _ => by kernel_rfl, v37 := fun _ => by kernel_rfl, t46 := Go.Proofs.Tryz.underlying83, a46 := fun _ => by kernel_rfl, z46 := fun _ => by kernel_rfl, v46 := fun _ => by kernel_rfl, t51 := Go.Proofs.Tryz.underlying99, a51 := fun _ => by kernel_rfl, z51 := fun _ => by kernel_rfl, v51 := fun _ => by kernel_rfl, t53 := Go.Proofs.Tryz.underlying135, a53 := fun _ => by kernel_rfl, z53 := fun _ => by kernel_rfl, v53 := fun _ => by kernel_rfl, t171 := Go.Proofs.Tryz.underlying144, a171 := fun _ => by kernel_rfl, z171 := fun _ => by kernel_rfl, v171 := fun _ => by kernel_rfl, t173 := Go.Proofs.Tryz.underlying147, a173 := fun _ => by kernel_rfl, z173 := fun _ => by kernel_rfl, v173 := fun _ => by kernel_rfl, t212 := Go.Proofs.Tryz.underlying157, a212 := fun _ => by kernel_rfl, z212 := fun _ => by kernel_rfl, v212 := fun _ => by kernel_rfl, t213 := Go.Proofs.Tryz.underlying158, a213 := fun _ => by kernel_rfl, z213 := fun _ => by kernel_rfl, t232 := Go.Proofs.Tryz.underlying22, a232 := fun _ => by kernel_rfl, z232 := fun _ => by kernel_rfl, v232 := fun _ => by kernel_rfl, t233 := Go.Proofs.Tryz.underlying164, a233 := fun _ => by kernel_rfl, z233 := fun _ => by kernel_rfl, v233 := fun _ => by kernel_rfl, g17 := by kernel_rfl, g18 := by kernel_rfl, g19 := by kernel_rfl, i0 := by kernel_rfl, i2 := by kernel_rfl, i3 := by kernel_rfl, i4 := by kernel_rfl, i5 := by kernel_rfl, i9 := by kernel_rfl, i20 := by kernel_rfl, i37 := by kernel_rfl, i46 := by kernel_rfl, i51 := by kernel_rfl, i53 := by kernel_rfl, i171 := by kernel_rfl, i173 := by kernel_rfl, i212 := by kernel_rfl, i232 := by kernel_rfl, i233 := by kernel_rfl, m17 := by kernel_rfl, m18 := by kernel_rfl, m19 := by kernel_rfl }

/-- cenotaph/chain.each -/
theorem c85 (w0 w : World) (Z : Hp) (A : HP) (hI : Inv w0 Z w A) (hT : Tabs Z) (a0 : ByteArray) (A_a1 : Option Addr) (c_a1 : Nat) (a1 : (List ApiEvent)) (hr_a1 : RdS Z c_ApiEvent 37 A_a1 c_a1 a1) (b_a2 : Nat) (r : (ByteArray × (List ApiEvent))) (h0 : chain_each a0 a1 = some r) :
  Calls prog 85 #[.string a0, .slice A_a1 a1.length c_a1, pb b_a2] w (fun e w' => ∃ (b1 : Nat) (b2 : Nat) (A3 : Option Addr) (c3 : Nat) (b4 : Nat) (Z' : Hp), Z.le Z' ∧ e = .returned (.func (.func 101) #[] #[pb b1, pb b2, pb b4]) ∧ RdS Z' c_ApiEvent 37 A3 c3 r.2 ∧ Z' b2 = some (.cells ([.slice A3 r.2.length c3] : LV).toArray 24 (0, 0)) ∧ Z' b4 = some (.cells ([pb b_a2] : LV).toArray 131 (0, 0)) ∧ Inv w0 Z' w' (star (pt b1 (.cells ([.string r.1] : LV).toArray 9 (0, 0))) A)) := by
 have e4 := calls_intro (R := (fun e w' => ∃ (b1 : Nat) (b2 : Nat) (A3 : Option Addr) (c3 : Nat) (b4 : Nat) (Z' : Hp), Z.le Z' ∧ e = .returned (.func (.func 101) #[] #[pb b1, pb b2, pb b4]) ∧ RdS Z' c_ApiEvent 37 A3 c3 r.2 ∧ Z' b2 = some (.cells ([.slice A3 r.2.length c3] : LV).toArray 24 (0, 0)) ∧ Z' b4 = some (.cells ([pb b_a2] : LV).toArray 131 (0, 0)) ∧ Inv w0 Z' w' (star (pt b1 (.cells ([.string r.1] : LV).toArray 9 (0, 0))) A))) (w := w) (args := [.string a0, .slice A_a1 a1.length c_a1, pb b_a2]) (fn := Go.Proofs.Tryz.f85) 8 Go.Proofs.Tryz.func85 (by rfl) Go.Proofs.Tryz.ntmps85 (by kernel_rfl)
 refine e4 ?_
 clear e4
 unfold chain_each at h0
 refine cQ (cR [0, 1, 2, 3] ?_)
 refine oC (Does.boxL (d := 3) (T := 9) (v := .string a0) ([.string a0] : LV) (by kernel_rfl) hI (by kernel_rfl) ?_)
 intro b1 w hI
 refine oC (Does.boxL (d := 4) (T := 24) (v := .slice A_a1 a1.length c_a1) ([.slice A_a1 a1.length c_a1] : LV) (by kernel_rfl) hI (by kernel_rfl) ?_)
 intro b2 w hI
 refine oC (Does.boxL (d := 5) (T := 131) (v := pb b_a2) ([pb b_a2] : LV) (by kernel_rfl) hI (by kernel_rfl) ?_)
 intro b3 w hI
 refine oP (r := []) [3] (S' := [(3, pb b1), (4, pb b2), (5, pb b3)]) ?_
 refine oD (qT (cQ ?_))
 have hI := hI.mono (pick2 _ _ _)
 obtain ⟨Z4, hle5, hz6, hI⟩ := pt_freeze hI
 obtain ⟨Z7, hle8, hz9, hI⟩ := pt_freeze hI
 refine cR [0, 1] ?_
 refine oP (r := []) [0, 1] (S' := [(6, .func (.func 101) #[] #[pb b1, pb b2, pb b3])]) ?_
 refine oD (qT (jE ?_))
 have e := someS h0
 subst e
 refine qK [6] (S' := [(6, .func (.func 101) #[] #[pb b1, pb b2, pb b3])]) ?_
 exact post_ret (v := .func (.func 101) #[] #[pb b1, pb b2, pb b3]) (fun a ha => jU (vs := [.func (.func 101) #[] #[pb b1, pb b2, pb b3]]) (.tmp (t := 6) (by kernel_rfl) .nil) ha (by kernel_rfl)) ⟨b1, b2, A_a1, c_a1, b3, Z7, (Hp.le_trans hle5 hle8), rfl, (hr_a1.mono (Hp.le_trans hle5 hle8)), (hle8 _ _ hz6), hz9, hI⟩
/-- cenotaph/sha.prime -/
theorem c88 (w0 w : World) (Z : Hp) (A : HP) (hI : Inv w0 Z w A) (hT : Tabs Z) (a0 : Int) (r : Bool) (h0 : sha_prime a0 = some r) :
  Calls prog 88 #[iv a0] w (fun e w' => e = .returned (.bool r) ∧ Inv w0 Z w' A) := by
 have e4 := calls_intro (R := (fun e w' => e = .returned (.bool r) ∧ Inv w0 Z w' A)) (w := w) (args := [iv a0]) (fn := Go.Proofs.Tryz.f88) 17 Go.Proofs.Tryz.func88 (by rfl) Go.Proofs.Tryz.ntmps88 (by kernel_rfl)
 refine e4 ?_
 clear e4
 unfold sha_prime at h0
 refine cQ (cR [0] ?_)
 refine oP (r := []) [0] (S' := [(0, iv a0)]) ?_
 refine oD (qT (cQ (cQ (cR [0] ?_))))
 refine oP (r := []) [0] (S' := [(0, iv a0), (3, iv 2)]) ?_
 refine oD (qT ?_)
 obtain ⟨r1, h1, h0⟩ := bindS h0
 refine CodT.meet1 (fun a w => .inr () = r1 ∧ Fr 17 [(0, iv a0)] a ∧ Inv w0 Z w A) ?_ ?_
 ·
  refine jB ?_
  refine (fun a ha => wp_loopN (fun k a w => ∃ (x1 : Int), sha_prime.l0 a0 k x1 = some r1 ∧ Fr 17 [(0, iv a0), (3, iv x1)] a ∧ Inv w0 Z w A) ?_ FU a w ⟨2, h1, ha.keep [0, 3] (by kernel_rfl), hI⟩)
  clear h1 hI
  rintro k a w ⟨x1, h1, ha, hI⟩
  rcases k with _ | k
  ·
   cases h1
  simp only [sha_prime.l0] at h1
  refine CodT.of ?_ ha
  refine cQ (cQ (cR [0, 1, 2, 3, 4] ?_))
  refine oP (r := []) [0, 1, 2, 3, 4] (S' := [(0, iv a0), (3, iv x1), (8, .bool (decide ((wi64 (x1 * x1)) ≤ a0)))]) ?_
  refine oD (qT ?_)
  by_cases hb2 : (decide ((wi64 (x1 * x1)) ≤ a0)) = true
  ·
   rw [if_pos hb2] at h1
   refine cY (b := decide ((wi64 (x1 * x1)) ≤ a0)) hb2 ?_
   refine jS (qT (cQ (jB (cQ (cR [0, 1, 2, 3] ?_)))))
   refine oP (r := [2, 3]) [0, 1] (S' := [(0, iv a0), (3, iv x1), (11, iv a0), (12, iv x1)]) ?_
   obtain ⟨hg3, h1⟩ := guardS h1
   refine oC (jY (Yl.rem (d := 13) (T := 3) (k := .i64) (x := a0) (y := x1) (by kernel_rfl) hg3) hI ?_)
   refine oP (r := []) [3] (S' := [(0, iv a0), (3, iv x1), (14, .bool ((a0.tmod x1) == 0))]) ?_
   refine oD (qT ?_)
   by_cases hb4 : ((a0.tmod x1) == 0) = true
   ·
    rw [if_pos hb4] at h1
    refine cY (b := (a0.tmod x1) == 0) hb4 ?_
    refine cQ (cR [0] ?_)
    refine oP (r := []) [0] (S' := [(2, .bool false)]) ?_
    refine oD (qT (jE (jQ (jR (jR (jQ (jR (jR ?_))))))))
    have e := someS h1
    subst e
    try dsimp only at h0
    have e := someS h0
    subst e
    refine qK [2] (S' := [(2, .bool false)]) ?_
    exact post_ret (v := .bool false) (fun a ha => jU (vs := [.bool false]) (.tmp (t := 2) (by kernel_rfl) .nil) ha (by kernel_rfl)) ⟨rfl, hI⟩
   ·
    rw [if_neg hb4] at h1
    refine cN (b := (a0.tmod x1) == 0) (by simpa using hb4) ?_
    refine jS (jN (qT (cR [0, 1, 2] ?_)))
    refine oP (r := []) [0, 1, 2] (S' := [(0, iv a0), (3, iv (wi64 (x1 + 1)))]) ?_
    refine oD ?_
    exact jT fun a ha => ⟨k, Nat.lt_succ_self k, wi64 (x1 + 1), h1, ha.keep [0, 3] (by kernel_rfl), hI⟩
  ·
   rw [if_neg hb2] at h1
   refine cN (b := decide ((wi64 (x1 * x1)) ≤ a0)) (by simpa using hb2) ?_
   refine jZ ?_
   refine jX (jX ?_)
   refine Qn.block ?_
   have e := someS h1
   subst e
   exact jT fun a ha => ⟨rfl, ha.keep [0] (by kernel_rfl), hI⟩
 ·
  rintro a w ⟨rfl, ha, hI⟩
  try dsimp only at h0
  refine Qn.of ?_ ha
  refine qT (cQ (cR [0, 1, 2] ?_))
  refine oP (r := []) [0, 1, 2] (S' := [(2, .bool (decide (a0 > 1)))]) ?_
  refine oD (qT (jE ?_))
  have e := someS h0
  subst e
  refine qK [2] (S' := [(2, .bool (decide (a0 > 1)))]) ?_
  exact post_ret (v := .bool (decide (a0 > 1))) (fun a ha => jU (vs := [.bool (decide (a0 > 1))]) (.tmp (t := 2) (by kernel_rfl) .nil) ha (by kernel_rfl)) ⟨rfl, hI⟩
/-- math/bits.Mul64 -/
theorem c115 (w0 w : World) (Z : Hp) (A : HP) (hI : Inv w0 Z w A) (hT : Tabs Z) (a0 : Int) (a1 : Int) (r : (Int × Int)) (h0 : bits_Mul64 a0 a1 = some r) :
  Calls prog 115 #[.int .u64 a0, .int .u64 a1] w (fun e w' => e = .returned (.tuple #[.int .u64 r.1, .int .u64 r.2]) ∧ Inv w0 Z w' A) := by
 have e4 := calls_intro (R := (fun e w' => e = .returned (.tuple #[.int .u64 r.1, .int .u64 r.2]) ∧ Inv w0 Z w' A)) (w := w) (args := [.int .u64 a0, .int .u64 a1]) (fn := Go.Proofs.Tryz.f115) 51 Go.Proofs.Tryz.func115 (by rfl) Go.Proofs.Tryz.ntmps115 (by kernel_rfl)
 refine e4 ?_
 clear e4
 unfold bits_Mul64 at h0
 refine cQ (cR [0, 1] ?_)
 refine oP (r := []) [0, 1] (S' := [(0, .int .u64 a0), (1, .int .u64 a1)]) ?_
 refine oD (qT (cQ (cR [0, 1, 2] ?_)))
 refine oP (r := []) [0, 1, 2] (S' := [(0, .int .u64 a0), (1, .int .u64 a1), (6, .int .u64 (bAnd .u64 a0 4294967295))]) ?_
 refine oD (qT (cQ (cR [0, 1, 2] ?_)))
 refine oP (r := []) [0, 1, 2] (S' := [(0, .int .u64 a0), (1, .int .u64 a1), (6, .int .u64 (bAnd .u64 a0 4294967295)), (7, .int .u64 (bShr .u64 a0 32))]) ?_
 refine oD (qT (cQ (cR [0, 1, 2] ?_)))
 refine oP (r := []) [0, 1, 2] (S' := [(0, .int .u64 a0), (1, .int .u64 a1), (6, .int .u64 (bAnd .u64 a0 4294967295)), (7, .int .u64 (bShr .u64 a0 32)), (8, .int .u64 (bAnd .u64 a1 4294967295))]) ?_
 refine oD (qT (cQ (cR [0, 1, 2] ?_)))
 refine oP (r := []) [0, 1, 2] (S' := [(0, .int .u64 a0), (1, .int .u64 a1), (6, .int .u64 (bAnd .u64 a0 4294967295)), (7, .int .u64 (bShr .u64 a0 32)), (8, .int .u64 (bAnd .u64 a1 4294967295)), (9, .int .u64 (bShr .u64 a1 32))]) ?_
 refine oD (qT (cQ (cR [0, 1, 2, 3] ?_)))
 refine oP (r := []) [0, 1, 2, 3] (S' := [(0, .int .u64 a0), (1, .int .u64 a1), (6, .int .u64 (bAnd .u64 a0 4294967295)), (7, .int .u64 (bShr .u64 a0 32)), (8, .int .u64 (bAnd .u64 a1 4294967295)), (9, .int .u64 (bShr .u64 a1 32)), (10, .int .u64 (wu64 ((bAnd .u64 a0 4294967295) * (bAnd .u64 a1 4294967295))))]) ?_
 refine oD (qT (cQ (cR [0, 1, 2, 3, 4, 5, 6] ?_)))
 refine oP (r := []) [0, 1, 2, 3, 4, 5, 6] (S' := [(0, .int .u64 a0), (1, .int .u64 a1), (6, .int .u64 (bAnd .u64 a0 4294967295)), (7, .int .u64 (bShr .u64 a0 32)), (9, .int .u64 (bShr .u64 a1 32)), (11, .int .u64 (wu64 ((wu64 ((bShr .u64 a0 32) * (bAnd .u64 a1 4294967295))) + (bShr .u64 (wu64 ((bAnd .u64 a0 4294967295) * (bAnd .u64 a1 4294967295))) 32))))]) ?_
 refine oD (qT (cQ (cR [0, 1, 2] ?_)))
 refine oP (r := []) [0, 1, 2] (S' := [(0, .int .u64 a0), (1, .int .u64 a1), (6, .int .u64 (bAnd .u64 a0 4294967295)), (7, .int .u64 (bShr .u64 a0 32)), (9, .int .u64 (bShr .u64 a1 32)), (11, .int .u64 (wu64 ((wu64 ((bShr .u64 a0 32) * (bAnd .u64 a1 4294967295))) + (bShr .u64 (wu64 ((bAnd .u64 a0 4294967295) * (bAnd .u64 a1 4294967295))) 32)))), (12, .int .u64 (bAnd .u64 (wu64 ((wu64 ((bShr .u64 a0 32) * (bAnd .u64 a1 4294967295))) + (bShr .u64 (wu64 ((bAnd .u64 a0 4294967295) * (bAnd .u64 a1 4294967295))) 32))) 4294967295))]) ?_
 refine oD (qT (cQ (cR [0, 1, 2] ?_)))
 refine oP (r := []) [0, 1, 2] (S' := [(0, .int .u64 a0), (1, .int .u64 a1), (6, .int .u64 (bAnd .u64 a0 4294967295)), (7, .int .u64 (bShr .u64 a0 32)), (9, .int .u64 (bShr .u64 a1 32)), (12, .int .u64 (bAnd .u64 (wu64 ((wu64 ((bShr .u64 a0 32) * (bAnd .u64 a1 4294967295))) + (bShr .u64 (wu64 ((bAnd .u64 a0 4294967295) * (bAnd .u64 a1 4294967295))) 32))) 4294967295)), (13, .int .u64 (bShr .u64 (wu64 ((wu64 ((bShr .u64 a0 32) * (bAnd .u64 a1 4294967295))) + (bShr .u64 (wu64 ((bAnd .u64 a0 4294967295) * (bAnd .u64 a1 4294967295))) 32))) 32))]) ?_
 refine oD (qT (cQ (cR [0, 1, 2, 3, 4, 5] ?_)))
 refine oP (r := []) [0, 1, 2, 3, 4, 5] (S' := [(0, .int .u64 a0), (1, .int .u64 a1), (7, .int .u64 (bShr .u64 a0 32)), (9, .int .u64 (bShr .u64 a1 32)), (12, .int .u64 (wu64 ((bAnd .u64 (wu64 ((wu64 ((bShr .u64 a0 32) * (bAnd .u64 a1 4294967295))) + (bShr .u64 (wu64 ((bAnd .u64 a0 4294967295) * (bAnd .u64 a1 4294967295))) 32))) 4294967295) + (wu64 ((bAnd .u64 a0 4294967295) * (bShr .u64 a1 32)))))), (13, .int .u64 (bShr .u64 (wu64 ((wu64 ((bShr .u64 a0 32) * (bAnd .u64 a1 4294967295))) + (bShr .u64 (wu64 ((bAnd .u64 a0 4294967295) * (bAnd .u64 a1 4294967295))) 32))) 32))]) ?_
 refine oD (qT (cQ (cR [0, 1, 2, 3, 4, 5, 6, 7, 8] ?_)))
 refine oP (r := []) [0, 1, 2, 3, 4, 5, 6, 7, 8] (S' := [(0, .int .u64 a0), (1, .int .u64 a1), (4, .int .u64 (wu64 ((wu64 ((wu64 ((bShr .u64 a0 32) * (bShr .u64 a1 32))) + (bShr .u64 (wu64 ((wu64 ((bShr .u64 a0 32) * (bAnd .u64 a1 4294967295))) + (bShr .u64 (wu64 ((bAnd .u64 a0 4294967295) * (bAnd .u64 a1 4294967295))) 32))) 32))) + (bShr .u64 (wu64 ((bAnd .u64 (wu64 ((wu64 ((bShr .u64 a0 32) * (bAnd .u64 a1 4294967295))) + (bShr .u64 (wu64 ((bAnd .u64 a0 4294967295) * (bAnd .u64 a1 4294967295))) 32))) 4294967295) + (wu64 ((bAnd .u64 a0 4294967295) * (bShr .u64 a1 32))))) 32))))]) ?_
 refine oD (qT (cQ (cR [0, 1, 2, 3] ?_)))
 refine oP (r := []) [0, 1, 2, 3] (S' := [(4, .int .u64 (wu64 ((wu64 ((wu64 ((bShr .u64 a0 32) * (bShr .u64 a1 32))) + (bShr .u64 (wu64 ((wu64 ((bShr .u64 a0 32) * (bAnd .u64 a1 4294967295))) + (bShr .u64 (wu64 ((bAnd .u64 a0 4294967295) * (bAnd .u64 a1 4294967295))) 32))) 32))) + (bShr .u64 (wu64 ((bAnd .u64 (wu64 ((wu64 ((bShr .u64 a0 32) * (bAnd .u64 a1 4294967295))) + (bShr .u64 (wu64 ((bAnd .u64 a0 4294967295) * (bAnd .u64 a1 4294967295))) 32))) 4294967295) + (wu64 ((bAnd .u64 a0 4294967295) * (bShr .u64 a1 32))))) 32)))), (5, .int .u64 (wu64 (a0 * a1)))]) ?_
 refine oD (qT (jE ?_))
 have e := someS h0
 subst e
 refine qK [4, 5] (S' := [(4, .int .u64 (wu64 ((wu64 ((wu64 ((bShr .u64 a0 32) * (bShr .u64 a1 32))) + (bShr .u64 (wu64 ((wu64 ((bShr .u64 a0 32) * (bAnd .u64 a1 4294967295))) + (bShr .u64 (wu64 ((bAnd .u64 a0 4294967295) * (bAnd .u64 a1 4294967295))) 32))) 32))) + (bShr .u64 (wu64 ((bAnd .u64 (wu64 ((wu64 ((bShr .u64 a0 32) * (bAnd .u64 a1 4294967295))) + (bShr .u64 (wu64 ((bAnd .u64 a0 4294967295) * (bAnd .u64 a1 4294967295))) 32))) 4294967295) + (wu64 ((bAnd .u64 a0 4294967295) * (bShr .u64 a1 32))))) 32)))), (5, .int .u64 (wu64 (a0 * a1)))]) ?_
 exact post_ret (v := .tuple #[.int .u64 (wu64 ((wu64 ((wu64 ((bShr .u64 a0 32) * (bShr .u64 a1 32))) + (bShr .u64 (wu64 ((wu64 ((bShr .u64 a0 32) * (bAnd .u64 a1 4294967295))) + (bShr .u64 (wu64 ((bAnd .u64 a0 4294967295) * (bAnd .u64 a1 4294967295))) 32))) 32))) + (bShr .u64 (wu64 ((bAnd .u64 (wu64 ((wu64 ((bShr .u64 a0 32) * (bAnd .u64 a1 4294967295))) + (bShr .u64 (wu64 ((bAnd .u64 a0 4294967295) * (bAnd .u64 a1 4294967295))) 32))) 4294967295) + (wu64 ((bAnd .u64 a0 4294967295) * (bShr .u64 a1 32))))) 32))), .int .u64 (wu64 (a0 * a1))]) (fun a ha => jU (vs := [.int .u64 (wu64 ((wu64 ((wu64 ((bShr .u64 a0 32) * (bShr .u64 a1 32))) + (bShr .u64 (wu64 ((wu64 ((bShr .u64 a0 32) * (bAnd .u64 a1 4294967295))) + (bShr .u64 (wu64 ((bAnd .u64 a0 4294967295) * (bAnd .u64 a1 4294967295))) 32))) 32))) + (bShr .u64 (wu64 ((bAnd .u64 (wu64 ((wu64 ((bShr .u64 a0 32) * (bAnd .u64 a1 4294967295))) + (bShr .u64 (wu64 ((bAnd .u64 a0 4294967295) * (bAnd .u64 a1 4294967295))) 32))) 4294967295) + (wu64 ((bAnd .u64 a0 4294967295) * (bShr .u64 a1 32))))) 32))), .int .u64 (wu64 (a0 * a1))]) (.tmp (t := 4) (by kernel_rfl) (.tmp (t := 5) (by kernel_rfl) .nil)) ha (by kernel_rfl)) ⟨rfl, hI⟩
/-- cenotaph/sha.fits -/
theorem c107 (w0 w : World) (Z : Hp) (A : HP) (hI : Inv w0 Z w A) (hT : Tabs Z) (a0 : Int) (a1 : Int) (a2 : Int) (r : Bool) (h0 : sha_fits a0 a1 a2 = some r) :
  Calls prog 107 #[.int .u64 a0, .int .u64 a1, iv a2] w (fun e w' => e = .returned (.bool r) ∧ Inv w0 Z w' A) := by
 have e4 := calls_intro (R := (fun e w' => e = .returned (.bool r) ∧ Inv w0 Z w' A)) (w := w) (args := [.int .u64 a0, .int .u64 a1, iv a2]) (fn := Go.Proofs.Tryz.f107) 80 Go.Proofs.Tryz.func107 (by rfl) Go.Proofs.Tryz.ntmps107 (by kernel_rfl)
 refine e4 ?_
 clear e4
 unfold sha_fits at h0
 refine cQ (cR [0] ?_)
 refine oP (r := []) [0] (S' := [(0, .int .u64 a0), (1, .int .u64 a1), (2, iv a2)]) ?_
 refine oD (qT (cQ (cR [0, 1, 2, 3, 4, 5, 6, 7] ?_)))
 refine oP (r := [2, 3, 4, 5, 6, 7]) [0, 1] (S' := [(0, .int .u64 a0), (1, .int .u64 a1), (2, iv a2), (18, .int .u64 a0), (19, .int .u64 a0)]) ?_
 obtain ⟨⟨y2, y3⟩, hc1, h0⟩ := bindS h0
 try dsimp only at h0
 refine oC (jC (d := some 20) (n := 115) (vs := [.int .u64 a0, .int .u64 a0]) (by kernel_rfl) en115 (c115 w0 w _ _ hI hT a0 a0 _ hc1) ?_)
 rintro e w ⟨rfl, hI⟩
 refine ⟨_, rfl, ?_⟩
 refine oP (r := []) [3, 4, 5, 6, 7] (S' := [(0, .int .u64 a0), (1, .int .u64 a1), (2, iv a2), (7, .int .u64 y2), (8, .int .u64 y3)]) ?_
 refine oD (qT (cQ (cQ (cR [0, 1] ?_))))
 refine oP (r := []) [0, 1] (S' := [(0, .int .u64 a0), (1, .int .u64 a1), (7, .int .u64 y2), (8, .int .u64 y3), (24, .bool (a2 == 2))]) ?_
 refine oD (qT ?_)
 by_cases hb4 : (a2 == 2) = true
 ·
  rw [if_pos hb4] at h0
  refine cY (b := a2 == 2) hb4 ?_
  obtain ⟨r1, h1, h0⟩ := bindS h0
  refine jM (fun a w => ∃ (x5 : Bool), x5 = r1 ∧ Fr 80 [(6, .bool x5)] a ∧ Inv w0 Z w A) ?_ ?_
  ·
   refine cR [0, 1, 2, 3, 4, 5, 6, 7, 8, 9, 10, 11, 12] ?_
   refine oP (r := [4, 5, 6, 7, 8, 9, 10, 11, 12]) [0, 1, 2, 3] (S' := [(1, .int .u64 a1), (7, .int .u64 y2), (8, .int .u64 y3), (28, .bool (decide (y2 < a1)))]) ?_
   by_cases hb6 : (decide (y2 < a1)) = true
   ·
    rw [if_pos hb6] at h1
    refine OpsT.keep [1, 7, 8, 28] (S' := [(1, .int .u64 a1), (7, .int .u64 y2), (8, .int .u64 y3), (28, .bool true)]) (by (try simp only [hb6]); kernel_rfl) ?_
    refine oP (r := []) [4, 5, 6, 7, 8, 9, 10, 11, 12] (S' := [(6, .bool true)]) ?_
    refine oD ?_
    have e := someS h1
    subst e
    exact jT fun a ha => ⟨true, rfl, ha.keep [6] (by kernel_rfl), hI⟩
   ·
    rw [if_neg hb6] at h1
    have hb6 : (decide (y2 < a1)) = false := by simpa using hb6
    refine OpsT.keep [1, 7, 8, 28] (S' := [(1, .int .u64 a1), (7, .int .u64 y2), (8, .int .u64 y3), (28, .bool false)]) (by (try simp only [hb6]); kernel_rfl) ?_
    refine oP (r := [8, 9, 10, 11, 12]) [4, 5, 6, 7] (S' := [(8, .int .u64 y3), (28, .bool false), (32, .bool (y2 == a1))]) ?_
    by_cases hb7 : (y2 == a1) = true
    ·
     rw [if_pos hb7] at h1
     refine OpsT.keep [8, 28, 32] (S' := [(8, .int .u64 y3), (28, .bool false), (32, .bool true)]) (by (try simp only [hb7]); kernel_rfl) ?_
     refine oP (r := []) [8, 9, 10, 11, 12] (S' := [(6, .bool (y3 == 0))]) ?_
     refine oD ?_
     have e := someS h1
     subst e
     exact jT fun a ha => ⟨y3 == 0, rfl, ha.keep [6] (by kernel_rfl), hI⟩
    ·
     rw [if_neg hb7] at h1
     have hb7 : (y2 == a1) = false := by simpa using hb7
     refine OpsT.keep [8, 28, 32] (S' := [(8, .int .u64 y3), (28, .bool false), (32, .bool false)]) (by (try simp only [hb7]); kernel_rfl) ?_
     refine oP (r := []) [8, 9, 10, 11, 12] (S' := [(6, .bool false)]) ?_
     refine oD ?_
     have e := someS h1
     subst e
     exact jT fun a ha => ⟨false, rfl, ha.keep [6] (by kernel_rfl), hI⟩
  ·
   rintro a w ⟨x5, rfl, ha, hI⟩
   try dsimp only at h0
   refine CodT.of ?_ ha
   refine jE (jR ?_)
   have e := someS h0
   subst e
   refine qK [6] (S' := [(6, .bool x5)]) ?_
   exact post_ret (v := .bool x5) (fun a ha => jU (vs := [.bool x5]) (.tmp (t := 6) (by kernel_rfl) .nil) ha (by kernel_rfl)) ⟨rfl, hI⟩
 ·
  rw [if_neg hb4] at h0
  refine cN (b := a2 == 2) (by simpa using hb4) ?_
  refine jS (qT (cQ (cR [0, 1, 2, 3, 4, 5, 6, 7] ?_)))
  refine oP (r := [2, 3, 4, 5, 6, 7]) [0, 1] (S' := [(0, .int .u64 a0), (1, .int .u64 a1), (7, .int .u64 y2), (38, .int .u64 y3), (39, .int .u64 a0)]) ?_
  obtain ⟨⟨y9, y10⟩, hc8, h0⟩ := bindS h0
  try dsimp only at h0
  refine oC (jC (d := some 40) (n := 115) (vs := [.int .u64 y3, .int .u64 a0]) (by kernel_rfl) en115 (c115 w0 w _ _ hI hT y3 a0 _ hc8) ?_)
  rintro e w ⟨rfl, hI⟩
  refine ⟨_, rfl, ?_⟩
  refine oP (r := []) [3, 4, 5, 6, 7] (S' := [(0, .int .u64 a0), (1, .int .u64 a1), (7, .int .u64 y2), (9, .int .u64 y9), (10, .int .u64 y10)]) ?_
  refine oD (qT (cQ (cR [0, 1, 2, 3, 4, 5, 6, 7] ?_)))
  refine oP (r := [2, 3, 4, 5, 6, 7]) [0, 1] (S' := [(1, .int .u64 a1), (9, .int .u64 y9), (10, .int .u64 y10), (44, .int .u64 y2), (45, .int .u64 a0)]) ?_
  obtain ⟨⟨y12, y13⟩, hc11, h0⟩ := bindS h0
  try dsimp only at h0
  refine oC (jC (d := some 46) (n := 115) (vs := [.int .u64 y2, .int .u64 a0]) (by kernel_rfl) en115 (c115 w0 w _ _ hI hT y2 a0 _ hc11) ?_)
  rintro e w ⟨rfl, hI⟩
  refine ⟨_, rfl, ?_⟩
  refine oP (r := []) [3, 4, 5, 6, 7] (S' := [(1, .int .u64 a1), (9, .int .u64 y9), (10, .int .u64 y10), (11, .int .u64 y12), (12, .int .u64 y13)]) ?_
  refine oD (qT (cQ (cR [0, 1, 2, 3, 4, 5, 6, 7] ?_)))
  refine oP (r := [2, 3, 4, 5, 6, 7]) [0, 1] (S' := [(1, .int .u64 a1), (10, .int .u64 y10), (11, .int .u64 y12), (50, .int .u64 y9), (51, .int .u64 y13)]) ?_
  refine oC (Does.ext (d := some 52) (n := 116) (vs := [.int .u64 y9, .int .u64 y13, .int .u64 0]) (by kernel_rfl) (ext116 _ _ _) ?_)
  refine oP (r := []) [3, 4, 5, 6, 7] (S' := [(1, .int .u64 a1), (10, .int .u64 y10), (11, .int .u64 y12), (13, .int .u64 (add64s y9 y13)), (14, .int .u64 (add64c y9 y13))]) ?_
  refine oD (qT (cQ (cR [0, 1, 2, 3] ?_)))
  refine oP (r := []) [0, 1, 2, 3] (S' := [(1, .int .u64 a1), (10, .int .u64 y10), (13, .int .u64 (add64s y9 y13)), (15, .int .u64 (wu64 (y12 + (add64c y9 y13))))]) ?_
  refine oD (qT (cQ (cR [0, 1, 2, 3, 4, 5] ?_)))
  refine oP (r := []) [0, 1, 2, 3, 4, 5] (S' := [(1, .int .u64 a1), (10, .int .u64 y10), (13, .int .u64 (add64s y9 y13)), (16, .int .u64 (bOr .u64 (bShl .u64 (wu64 (y12 + (add64c y9 y13))) 32) (bShr .u64 (add64s y9 y13) 32)))]) ?_
  refine oD (qT ?_)
  obtain ⟨r1, h1, h0⟩ := bindS h0
  refine jM (fun a w => ∃ (x14 : Bool), x14 = r1 ∧ Fr 80 [(6, .bool x14)] a ∧ Inv w0 Z w A) ?_ ?_
  ·
   refine cR [0, 1, 2, 3, 4, 5, 6, 7, 8, 9, 10, 11, 12, 13, 14, 15, 16, 17] ?_
   refine oP (r := [4, 5, 6, 7, 8, 9, 10, 11, 12, 13, 14, 15, 16, 17]) [0, 1, 2, 3] (S' := [(1, .int .u64 a1), (10, .int .u64 y10), (13, .int .u64 (add64s y9 y13)), (16, .int .u64 (bOr .u64 (bShl .u64 (wu64 (y12 + (add64c y9 y13))) 32) (bShr .u64 (add64s y9 y13) 32))), (66, .bool (decide ((bOr .u64 (bShl .u64 (wu64 (y12 + (add64c y9 y13))) 32) (bShr .u64 (add64s y9 y13) 32)) < a1)))]) ?_
   by_cases hb15 : (decide ((bOr .u64 (bShl .u64 (wu64 (y12 + (add64c y9 y13))) 32) (bShr .u64 (add64s y9 y13) 32)) < a1)) = true
   ·
    rw [if_pos hb15] at h1
    refine OpsT.keep [1, 10, 13, 16, 66] (S' := [(1, .int .u64 a1), (10, .int .u64 y10), (13, .int .u64 (add64s y9 y13)), (16, .int .u64 (bOr .u64 (bShl .u64 (wu64 (y12 + (add64c y9 y13))) 32) (bShr .u64 (add64s y9 y13) 32))), (66, .bool true)]) (by (try simp only [hb15]); kernel_rfl) ?_
    refine oP (r := []) [4, 5, 6, 7, 8, 9, 10, 11, 12, 13, 14, 15, 16, 17] (S' := [(6, .bool true)]) ?_
    refine oD ?_
    have e := someS h1
    subst e
    exact jT fun a ha => ⟨true, rfl, ha.keep [6] (by kernel_rfl), hI⟩
   ·
    rw [if_neg hb15] at h1
    have hb15 : (decide ((bOr .u64 (bShl .u64 (wu64 (y12 + (add64c y9 y13))) 32) (bShr .u64 (add64s y9 y13) 32)) < a1)) = false := by simpa using hb15
    refine OpsT.keep [1, 10, 13, 16, 66] (S' := [(1, .int .u64 a1), (10, .int .u64 y10), (13, .int .u64 (add64s y9 y13)), (16, .int .u64 (bOr .u64 (bShl .u64 (wu64 (y12 + (add64c y9 y13))) 32) (bShr .u64 (add64s y9 y13) 32))), (66, .bool false)]) (by (try simp only [hb15]); kernel_rfl) ?_
    refine oP (r := [8, 9, 10, 11, 12, 13, 14, 15, 16, 17]) [4, 5, 6, 7] (S' := [(10, .int .u64 y10), (13, .int .u64 (add64s y9 y13)), (66, .bool false), (70, .bool ((bOr .u64 (bShl .u64 (wu64 (y12 + (add64c y9 y13))) 32) (bShr .u64 (add64s y9 y13) 32)) == a1))]) ?_
    by_cases hb16 : ((bOr .u64 (bShl .u64 (wu64 (y12 + (add64c y9 y13))) 32) (bShr .u64 (add64s y9 y13) 32)) == a1) = true
    ·
     rw [if_pos hb16] at h1
     refine OpsT.keep [10, 13, 66, 70] (S' := [(10, .int .u64 y10), (13, .int .u64 (add64s y9 y13)), (66, .bool false), (70, .bool true)]) (by (try simp only [hb16]); kernel_rfl) ?_
     refine oP (r := [13, 14, 15, 16, 17]) [8, 9, 10, 11, 12] (S' := [(10, .int .u64 y10), (66, .bool false), (75, .bool ((wu32 (add64s y9 y13)) == 0))]) ?_
     by_cases hb17 : ((wu32 (add64s y9 y13)) == 0) = true
     ·
      rw [if_pos hb17] at h1
      refine OpsT.keep [10, 66, 75] (S' := [(10, .int .u64 y10), (66, .bool false), (75, .bool true)]) (by (try simp only [hb17]); kernel_rfl) ?_
      refine oP (r := []) [13, 14, 15, 16, 17] (S' := [(6, .bool (y10 == 0))]) ?_
      refine oD ?_
      have e := someS h1
      subst e
      exact jT fun a ha => ⟨y10 == 0, rfl, ha.keep [6] (by kernel_rfl), hI⟩
     ·
      rw [if_neg hb17] at h1
      have hb17 : ((wu32 (add64s y9 y13)) == 0) = false := by simpa using hb17
      refine OpsT.keep [10, 66, 75] (S' := [(10, .int .u64 y10), (66, .bool false), (75, .bool false)]) (by (try simp only [hb17]); kernel_rfl) ?_
      refine oP (r := []) [13, 14, 15, 16, 17] (S' := [(6, .bool false)]) ?_
      refine oD ?_
      have e := someS h1
      subst e
      exact jT fun a ha => ⟨false, rfl, ha.keep [6] (by kernel_rfl), hI⟩
    ·
     rw [if_neg hb16] at h1
     have hb16 : ((bOr .u64 (bShl .u64 (wu64 (y12 + (add64c y9 y13))) 32) (bShr .u64 (add64s y9 y13) 32)) == a1) = false := by simpa using hb16
     refine OpsT.keep [10, 13, 66, 70] (S' := [(10, .int .u64 y10), (13, .int .u64 (add64s y9 y13)), (66, .bool false), (70, .bool false)]) (by (try simp only [hb16]); kernel_rfl) ?_
     refine oP (r := []) [8, 9, 10, 11, 12, 13, 14, 15, 16, 17] (S' := [(6, .bool false)]) ?_
     refine oD ?_
     have e := someS h1
     subst e
     exact jT fun a ha => ⟨false, rfl, ha.keep [6] (by kernel_rfl), hI⟩
  ·
   rintro a w ⟨x14, rfl, ha, hI⟩
   try dsimp only at h0
   refine CodT.of ?_ ha
   refine jE ?_
   have e := someS h0
   subst e
   refine qK [6] (S' := [(6, .bool x14)]) ?_
   exact post_ret (v := .bool x14) (fun a ha => jU (vs := [.bool x14]) (.tmp (t := 6) (by kernel_rfl) .nil) ha (by kernel_rfl)) ⟨rfl, hI⟩
/-- cenotaph/sha.root -/
theorem c89 (w0 w : World) (Z : Hp) (A : HP) (hI : Inv w0 Z w A) (hT : Tabs Z) (a0 : Int) (a1 : Int) (r : Int) (h0 : sha_root a0 a1 = some r) :
  Calls prog 89 #[.int .u64 a0, iv a1] w (fun e w' => e = .returned (.int .u32 r) ∧ Inv w0 Z w' A) := by
 have e4 := calls_intro (R := (fun e w' => e = .returned (.int .u32 r) ∧ Inv w0 Z w' A)) (w := w) (args := [.int .u64 a0, iv a1]) (fn := Go.Proofs.Tryz.f89) 22 Go.Proofs.Tryz.func89 (by rfl) Go.Proofs.Tryz.ntmps89 (by kernel_rfl)
 refine e4 ?_
 clear e4
 unfold sha_root at h0
 refine cQ (cR [0] ?_)
 refine oP (r := []) [0] (S' := [(0, .int .u64 a0), (1, iv a1)]) ?_
 refine oD (qT (cQ (cR [0] ?_)))
 refine oP (r := []) [0] (S' := [(0, .int .u64 a0), (1, iv a1), (5, .int .u64 0)]) ?_
 refine oD (qT (cQ (cQ (cR [0] ?_))))
 refine oP (r := []) [0] (S' := [(0, .int .u64 a0), (1, iv a1), (5, .int .u64 0), (6, .int .u64 137438953472)]) ?_
 refine oD (qT ?_)
 obtain ⟨r1, h1, h0⟩ := bindS h0
 refine CodT.meet1 (fun a w => ∃ (x1 : Int), x1 = r1 ∧ Fr 22 [(5, .int .u64 x1)] a ∧ Inv w0 Z w A) ?_ ?_
 ·
  refine jB ?_
  refine (fun a ha => wp_loopN (fun k a w => ∃ (x2 : Int) (x3 : Int), sha_root.l0 a0 a1 k x2 x3 = some r1 ∧ Fr 22 [(0, .int .u64 a0), (1, iv a1), (5, .int .u64 x2), (6, .int .u64 x3)] a ∧ Inv w0 Z w A) ?_ FU a w ⟨0, 137438953472, h1, ha.keep [0, 1, 5, 6] (by kernel_rfl), hI⟩)
  clear h1 hI
  rintro k a w ⟨x2, x3, h1, ha, hI⟩
  rcases k with _ | k
  ·
   cases h1
  simp only [sha_root.l0] at h1
  refine CodT.of ?_ ha
  refine cQ (cQ (cR [0, 1] ?_))
  refine oP (r := []) [0, 1] (S' := [(0, .int .u64 a0), (1, iv a1), (5, .int .u64 x2), (6, .int .u64 x3), (8, .bool (decide (x3 > 0)))]) ?_
  refine oD (qT ?_)
  by_cases hb4 : (decide (x3 > 0)) = true
  ·
   rw [if_pos hb4] at h1
   refine cY (b := decide (x3 > 0)) hb4 ?_
   refine jS (qT ?_)
   obtain ⟨r2, h2, h1⟩ := bindS h1
   refine jM (fun a w => ∃ (x5 : Int), x5 = r2 ∧ Fr 22 [(0, .int .u64 a0), (1, iv a1), (5, .int .u64 x5), (6, .int .u64 x3)] a ∧ Inv w0 Z w A) ?_ ?_
   ·
    refine jB (cQ (cR [0, 1, 2, 3, 4, 5] ?_))
    refine oP (r := [5]) [0, 1, 2, 3, 4] (S' := [(0, .int .u64 a0), (1, iv a1), (5, .int .u64 x2), (6, .int .u64 x3), (13, .int .u64 (bOr .u64 x2 x3)), (14, .int .u64 a0), (15, iv a1)]) ?_
    obtain ⟨y7, hc6, h2⟩ := bindS h2
    try dsimp only at h2
    refine oC (jC (d := some 16) (n := 107) (vs := [.int .u64 (bOr .u64 x2 x3), .int .u64 a0, iv a1]) (by kernel_rfl) en107 (c107 w0 w _ _ hI hT (bOr .u64 x2 x3) a0 a1 _ hc6) ?_)
    rintro e w ⟨rfl, hI⟩
    refine ⟨_, rfl, ?_⟩
    refine oD (qT ?_)
    by_cases hb8 : y7 = true
    ·
     rw [if_pos hb8] at h2
     refine cY (b := y7) hb8 ?_
     refine cR [0, 1, 2, 3] ?_
     refine oP (r := []) [0, 1, 2, 3] (S' := [(0, .int .u64 a0), (1, iv a1), (5, .int .u64 (bOr .u64 x2 x3)), (6, .int .u64 x3)]) ?_
     refine oD (jN ?_)
     have e := someS h2
     subst e
     exact jT fun a ha => ⟨bOr .u64 x2 x3, rfl, ha.keep [0, 1, 5, 6] (by kernel_rfl), hI⟩
    ·
     rw [if_neg hb8] at h2
     refine cN (b := y7) (by simpa using hb8) ?_
     refine jS (jN ?_)
     have e := someS h2
     subst e
     exact jT fun a ha => ⟨x2, rfl, ha.keep [0, 1, 5, 6] (by kernel_rfl), hI⟩
   ·
    rintro a w ⟨x5, rfl, ha, hI⟩
    try dsimp only at h1
    refine CodT.of ?_ ha
    refine cR [0, 1, 2] ?_
    refine oP (r := []) [0, 1, 2] (S' := [(0, .int .u64 a0), (1, iv a1), (5, .int .u64 x5), (6, .int .u64 (bShr .u64 x3 1))]) ?_
    refine oD ?_
    exact jT fun a ha => ⟨k, Nat.lt_succ_self k, x5, bShr .u64 x3 1, h1, ha.keep [0, 1, 5, 6] (by kernel_rfl), hI⟩
  ·
   rw [if_neg hb4] at h1
   refine cN (b := decide (x3 > 0)) (by simpa using hb4) ?_
   refine jZ ?_
   refine jX (jX ?_)
   refine Qn.block ?_
   have e := someS h1
   subst e
   exact jT fun a ha => ⟨x2, rfl, ha.keep [5] (by kernel_rfl), hI⟩
 ·
  rintro a w ⟨x1, rfl, ha, hI⟩
  try dsimp only at h0
  refine Qn.of ?_ ha
  refine qT (cQ (cR [0, 1, 2] ?_))
  refine oP (r := []) [0, 1, 2] (S' := [(4, .int .u32 (wu32 x1))]) ?_
  refine oD (qT (jE ?_))
  have e := someS h0
  subst e
  refine qK [4] (S' := [(4, .int .u32 (wu32 x1))]) ?_
  exact post_ret (v := .int .u32 (wu32 x1)) (fun a ha => jU (vs := [.int .u32 (wu32 x1)]) (.tmp (t := 4) (by kernel_rfl) .nil) ha (by kernel_rfl)) ⟨rfl, hI⟩
/-- cenotaph/sha.constants -/
theorem c68 (w0 w : World) (Z : Hp) (A : HP) (hI : Inv w0 Z w A) (hT : Tabs Z)  (r : ((List Int) × (List Int))) (h0 : sha_constants = some r) :
  Calls prog 68 #[] w (fun e w' => e = .returned (.tuple #[.agg (cA (Value.int .u32) r.1).toArray, .agg (cA (Value.int .u32) r.2).toArray]) ∧ r.1.length = 8 ∧ r.2.length = 64 ∧ Inv w0 Z w' A) := by
 have e4 := calls_intro (R := (fun e w' => e = .returned (.tuple #[.agg (cA (Value.int .u32) r.1).toArray, .agg (cA (Value.int .u32) r.2).toArray]) ∧ r.1.length = 8 ∧ r.2.length = 64 ∧ Inv w0 Z w' A)) (w := w) (args := []) (fn := Go.Proofs.Tryz.f68) 27 Go.Proofs.Tryz.func68 (by rfl) Go.Proofs.Tryz.ntmps68 (by kernel_rfl)
 refine e4 ?_
 clear e4
 unfold sha_constants at h0
 refine cQ (cR [0, 1] ?_)
 refine oC (jA (d := 0) (T := 100) (cA (Value.int .u32) (List.replicate 8 (0 : Int))) (by kernel_rfl) ty100 hI (by kernel_rfl) ?_)
 intro b1 w hI
 refine oC (jA (d := 1) (T := 101) (cA (Value.int .u32) (List.replicate 64 (0 : Int))) (by kernel_rfl) ty101 hI (by kernel_rfl) ?_)
 intro b2 w hI
 refine oD (qT (cQ (cR [0] ?_)))
 refine oP (r := []) [0] (S' := [(0, pb b1), (1, pb b2), (2, iv 0)]) ?_
 refine oD (qT (cQ (cQ (cR [0] ?_))))
 refine oP (r := []) [0] (S' := [(0, pb b1), (1, pb b2), (2, iv 0), (3, iv 2)]) ?_
 refine oD (qT ?_)
 obtain ⟨r1, h1, h0⟩ := bindS h0
 refine CodT.meet1 (fun a w => ∃ (x3 : (List Int)) (x5 : (List Int)), (x3, x5) = r1 ∧ Fr 27 [(0, pb b1), (1, pb b2)] a ∧ Inv w0 Z w (star (pt b2 (.cells (cA (Value.int .u32) x3).toArray 101 (0, 0))) (star (pt b1 (.cells (cA (Value.int .u32) x5).toArray 100 (0, 0))) A)) ∧ x3.length = 64 ∧ x5.length = 8) ?_ ?_
 ·
  refine jB ?_
  refine (fun a ha => wp_loopN (fun k a w => ∃ (x7 : Int) (x8 : Int) (x9 : (List Int)) (x11 : (List Int)), sha_constants.l0 k x7 x8 x9 x11 = some r1 ∧ Fr 27 [(0, pb b1), (1, pb b2), (2, iv x7), (3, iv x8)] a ∧ Inv w0 Z w (star (pt b2 (.cells (cA (Value.int .u32) x9).toArray 101 (0, 0))) (star (pt b1 (.cells (cA (Value.int .u32) x11).toArray 100 (0, 0))) A)) ∧ x9.length = 64 ∧ x11.length = 8) ?_ FU a w ⟨0, 2, (List.replicate 64 (0 : Int)), (List.replicate 8 (0 : Int)), h1, ha.keep [0, 1, 2, 3] (by kernel_rfl), hI, (by kernel_rfl), (by kernel_rfl)⟩)
  clear h1 hI
  rintro k a w ⟨x7, x8, x9, x11, h1, ha, hI, hl10, hl12⟩
  rcases k with _ | k
  ·
   cases h1
  simp only [sha_constants.l0] at h1
  refine CodT.of ?_ ha
  refine cQ (cQ (cR [0, 1] ?_))
  refine oP (r := []) [0, 1] (S' := [(0, pb b1), (1, pb b2), (2, iv x7), (3, iv x8), (5, .bool (decide (x7 < 64)))]) ?_
  refine oD (qT ?_)
  by_cases hb13 : (decide (x7 < 64)) = true
  ·
   rw [if_pos hb13] at h1
   refine cY (b := decide (x7 < 64)) hb13 ?_
   refine jS (qT ?_)
   obtain ⟨r2, h2, h1⟩ := bindS h1
   refine jM (fun a w => ∃ (x14 : Int) (x15 : (List Int)) (x17 : (List Int)), (x14, x15, x17) = r2 ∧ Fr 27 [(0, pb b1), (1, pb b2), (2, iv x14), (3, iv x8)] a ∧ Inv w0 Z w (star (pt b2 (.cells (cA (Value.int .u32) x15).toArray 101 (0, 0))) (star (pt b1 (.cells (cA (Value.int .u32) x17).toArray 100 (0, 0))) A)) ∧ x15.length = 64 ∧ x17.length = 8) ?_ ?_
   ·
    refine jB (cQ (cQ (cR [0, 1, 2] ?_)))
    refine oP (r := [1, 2]) [0] (S' := [(0, pb b1), (1, pb b2), (2, iv x7), (3, iv x8), (8, iv x8)]) ?_
    obtain ⟨y20, hc19, h2⟩ := bindS h2
    try dsimp only at h2
    refine oC (jC (d := some 9) (n := 88) (vs := [iv x8]) (by kernel_rfl) en88 (c88 w0 w _ _ hI hT x8 _ hc19) ?_)
    rintro e w ⟨rfl, hI⟩
    refine ⟨_, rfl, ?_⟩
    refine oP (r := []) [2] (S' := [(0, pb b1), (1, pb b2), (2, iv x7), (3, iv x8), (10, .bool (!y20))]) ?_
    refine oD (qT ?_)
    by_cases hb21 : (!y20) = true
    ·
     rw [if_pos hb21] at h2
     refine cY (b := !y20) hb21 ?_
     refine jZ ?_
     refine jX ?_
     refine Qn.block ?_
     have e := someS h2
     subst e
     exact jT fun a ha => ⟨x7, x9, x11, rfl, ha.keep [0, 1, 2, 3] (by kernel_rfl), hI, hl10, hl12⟩
    ·
     rw [if_neg hb21] at h2
     refine cN (b := !y20) (by simpa using hb21) ?_
     refine jS (qT (cQ (cR [0, 1, 2, 3, 4, 5] ?_)))
     refine oP (r := [3, 4, 5]) [0, 1, 2] (S' := [(0, pb b1), (1, pb b2), (2, iv x7), (3, iv x8), (11, iv x7), (13, .int .u64 (wu64 x8))]) ?_
     obtain ⟨y23, hc22, h2⟩ := bindS h2
     try dsimp only at h2
     refine oC (jC (d := some 14) (n := 89) (vs := [.int .u64 (wu64 x8), iv 3]) (by kernel_rfl) en89 (c89 w0 w _ _ hI hT (wu64 x8) 3 _ hc22) ?_)
     rintro e w ⟨rfl, hI⟩
     refine ⟨_, rfl, ?_⟩
     obtain ⟨hg24, h2⟩ := guardS h2
     refine oC (jY (Yl.indexArr (d := 15) (T := 101) (k := .i64) (j := x7) (g := b2) (o := 0) (by kernel_rfl) Go.Proofs.Tryz.underlying101 ty99 hg24.1 hg24.2) hI ?_)
     refine oC (Does.storeArr (e := (Value.int .u32)) (xs := x9) (u := y23) (T := 99) (b := b2) (j := x7) (by kernel_rfl) ty99 hI (by kernel_rfl) (by kernel_rfl) hg24.1 (by have := And.intro hl10 hg24.2; omega) ?_)
     intro w hI
     refine oD (qT ?_)
     obtain ⟨r3, h3, h2⟩ := bindS h2
     refine jM (fun a w => ∃ (x25 : (List Int)), x25 = r3 ∧ Fr 27 [(0, pb b1), (1, pb b2), (2, iv x7), (3, iv x8)] a ∧ Inv w0 Z w (star (pt b2 (.cells (cA (Value.int .u32) (st x9 x7 y23)).toArray 101 (0, 0))) (star (pt b1 (.cells (cA (Value.int .u32) x25).toArray 100 (0, 0))) A)) ∧ x25.length = 8) ?_ ?_
     ·
      refine cQ (cR [0, 1] ?_)
      refine oP (r := []) [0, 1] (S' := [(0, pb b1), (1, pb b2), (2, iv x7), (3, iv x8), (17, .bool (decide (x7 < 8)))]) ?_
      refine oD (qT ?_)
      by_cases hb27 : (decide (x7 < 8)) = true
      ·
       rw [if_pos hb27] at h3
       refine cY (b := decide (x7 < 8)) hb27 ?_
       refine cR [0, 1, 2, 3, 4, 5] ?_
       refine oP (r := [3, 4, 5]) [0, 1, 2] (S' := [(0, pb b1), (1, pb b2), (2, iv x7), (3, iv x8), (18, iv x7), (20, .int .u64 (wu64 x8))]) ?_
       obtain ⟨y29, hc28, h3⟩ := bindS h3
       try dsimp only at h3
       refine oC (jC (d := some 21) (n := 89) (vs := [.int .u64 (wu64 x8), iv 2]) (by kernel_rfl) en89 (c89 w0 w _ _ hI hT (wu64 x8) 2 _ hc28) ?_)
       rintro e w ⟨rfl, hI⟩
       refine ⟨_, rfl, ?_⟩
       obtain ⟨hg30, h3⟩ := guardS h3
       refine oC (jY (Yl.indexArr (d := 22) (T := 100) (k := .i64) (j := x7) (g := b1) (o := 0) (by kernel_rfl) Go.Proofs.Tryz.underlying100 ty99 hg30.1 hg30.2) hI ?_)
       have hI := hI.mono (pick2 _ _ _)
       refine oC (Does.storeArr (e := (Value.int .u32)) (xs := x11) (u := y29) (T := 99) (b := b1) (j := x7) (by kernel_rfl) ty99 hI (by kernel_rfl) (by kernel_rfl) hg30.1 (by have := And.intro hl12 hg30.2; omega) ?_)
       intro w hI
       refine oD ?_
       have hI := hI.mono (pick2 _ _ _)
       have e := someS h3
       subst e
       exact jT fun a ha => ⟨st x11 x7 y29, rfl, ha.keep [0, 1, 2, 3] (by kernel_rfl), hI, ((st_length _ _ _).trans hl12)⟩
      ·
       rw [if_neg hb27] at h3
       refine cN (b := decide (x7 < 8)) (by simpa using hb27) ?_
       refine jS ?_
       have e := someS h3
       subst e
       exact jT fun a ha => ⟨x11, rfl, ha.keep [0, 1, 2, 3] (by kernel_rfl), hI, hl12⟩
     ·
      rintro a w ⟨x25, rfl, ha, hI, hl26⟩
      try dsimp only at h2
      refine CodT.of ?_ ha
      refine cR [0, 1, 2] ?_
      refine oP (r := []) [0, 1, 2] (S' := [(0, pb b1), (1, pb b2), (2, iv (wi64 (x7 + 1))), (3, iv x8)]) ?_
      refine oD (jN ?_)
      have e := someS h2
      subst e
      exact jT fun a ha => ⟨wi64 (x7 + 1), st x9 x7 y23, x25, rfl, ha.keep [0, 1, 2, 3] (by kernel_rfl), hI, ((st_length _ _ _).trans hl10), hl26⟩
   ·
    rintro a w ⟨x14, x15, x17, rfl, ha, hI, hl16, hl18⟩
    try dsimp only at h1
    refine CodT.of ?_ ha
    refine cR [0, 1, 2] ?_
    refine oP (r := []) [0, 1, 2] (S' := [(0, pb b1), (1, pb b2), (2, iv x14), (3, iv (wi64 (x8 + 1)))]) ?_
    refine oD ?_
    exact jT fun a ha => ⟨k, Nat.lt_succ_self k, x14, wi64 (x8 + 1), x15, x17, h1, ha.keep [0, 1, 2, 3] (by kernel_rfl), hI, hl16, hl18⟩
  ·
   rw [if_neg hb13] at h1
   refine cN (b := decide (x7 < 64)) (by simpa using hb13) ?_
   refine jZ ?_
   refine jX (jX ?_)
   refine Qn.block ?_
   have e := someS h1
   subst e
   exact jT fun a ha => ⟨x9, x11, rfl, ha.keep [0, 1] (by kernel_rfl), hI, hl10, hl12⟩
 ·
  rintro a w ⟨x3, x5, rfl, ha, hI, hl4, hl6⟩
  try dsimp only at h0
  refine Qn.of ?_ ha
  refine qT (cQ ?_)
  refine CodT.drawI (n := 4) [] (by kernel_rfl) (by kernel_rfl) hI ?_
  intro w hI
  refine gR (i := 0) 2 (jL (d := 25) (T := 100) (v := .agg (cA (Value.int .u32) x5).toArray) (by kernel_rfl) (ldBN ty100 (l := cA (Value.int .u32) x5) (o := 0) (cs := cA (Value.int .u32) x5) (pick2 _ _ _) ((cA_length _ _).trans hl6) (whole _ _ ((cA_length _ _).trans hl6)))) hI ?_
  refine gR (i := 1) 2 (jL (d := 26) (T := 101) (v := .agg (cA (Value.int .u32) x3).toArray) (by kernel_rfl) (ldBN ty101 (l := cA (Value.int .u32) x3) (o := 0) (cs := cA (Value.int .u32) x3) (ent_refl _) ((cA_length _ _).trans hl4) (whole _ _ ((cA_length _ _).trans hl4)))) hI ?_
  have hI := hI.mono (pick2 _ _ _)
  refine jO (i := 2) (by kernel_rfl) (jV (T := 100) (b := b1) (n := 8) (xs := x5) (ys := x5) (by kernel_rfl) ty100 hI (fun _ => rfl) hl6 hl6 ?_)
  intro w hI
  have hC := hI
  have hC := hC.mono (pick2 _ _ _)
  refine ⟨fun _ _ => hC, ?_⟩
  have hI := hI.mono (pick2 _ _ _)
  refine jO (i := 3) (by kernel_rfl) (jV (T := 101) (b := b2) (n := 64) (xs := x3) (ys := x3) (by kernel_rfl) ty101 hI (fun _ => rfl) hl4 hl4 ?_)
  intro w hI
  refine ⟨fun _ _ => hI, ?_⟩
  refine jD (by kernel_rfl) ?_
  refine qT (jE ?_)
  have hL31 := (ldBN ty100 (l := cA (Value.int .u32) x5) (o := 0) (cs := cA (Value.int .u32) x5) (pick2 _ _ _) ((cA_length _ _).trans hl6) (whole _ _ ((cA_length _ _).trans hl6))) w hI
  have hL32 := (ldBN ty101 (l := cA (Value.int .u32) x3) (o := 0) (cs := cA (Value.int .u32) x3) (ent_refl _) ((cA_length _ _).trans hl4) (whole _ _ ((cA_length _ _).trans hl4))) w hI
  have hI := hI.drop
  have hI := hI.drop
  have e := someS h0
  subst e
  refine qK [0, 1] (S' := [(0, pb b1), (1, pb b2)]) ?_
  exact post_ret (v := .tuple #[.agg (cA (Value.int .u32) x5).toArray, .agg (cA (Value.int .u32) x3).toArray]) (fun a ha => jU (vs := [.agg (cA (Value.int .u32) x5).toArray, .agg (cA (Value.int .u32) x3).toArray]) (.cell (t := 0) (T := 100) (ad := ⟨b1, 0, none⟩) (by kernel_rfl) hL31 (.cell (t := 1) (T := 101) (ad := ⟨b2, 0, none⟩) (by kernel_rfl) hL32 .nil)) ha (by kernel_rfl)) ⟨rfl, hl6, hl4, hI⟩
/-- cenotaph/sha.Pad -/
theorem c69 (w0 w : World) (Z : Hp) (A : HP) (hI : Inv w0 Z w A) (hT : Tabs Z) (a0 : ByteArray) (r : ByteArray) (h0 : sha_Pad a0 = some r) :
  Calls prog 69 #[.string a0] w (fun e w' => e = .returned (.string r) ∧ Inv w0 Z w' A) := by
 have e4 := calls_intro (R := (fun e w' => e = .returned (.string r) ∧ Inv w0 Z w' A)) (w := w) (args := [.string a0]) (fn := Go.Proofs.Tryz.f69) 35 Go.Proofs.Tryz.func69 (by rfl) Go.Proofs.Tryz.ntmps69 (by kernel_rfl)
 refine e4 ?_
 clear e4
 unfold sha_Pad at h0
 refine cQ (cR [0] ?_)
 refine oP (r := []) [0] (S' := [(0, .string a0)]) ?_
 refine oD (qT (cQ (cR [0, 1, 2, 3, 4] ?_)))
 refine oP (r := [1, 2, 3, 4]) [0] (S' := [(0, .string a0), (6, .string a0)]) ?_
 obtain ⟨hg1, h0⟩ := guardS h0
 refine oC (Does.s2b (d := 7) (src := 9) (dst := 52) (s := a0) (by kernel_rfl) Go.Proofs.Tryz.underlying9 Go.Proofs.Tryz.underlying52 Go.Proofs.Tryz.underlying5 (Nat.le_trans hg1 (by decide)) hI ?_)
 intro A2 cp3 w hI
 refine oC (Does.buildSlice (en := (cI .u8)) (d := 8) (n := 1) (T := 52) (ps := [(0, .int .u8 128)]) ([128] : List Int) (by kernel_rfl) Go.Proofs.Tryz.underlying52 ty5 (by kernel_rfl) (by kernel_rfl) (by kernel_rfl) (by kernel_rfl) (len_all (fun _ => rfl)) hI ?_)
 intro b4 w hI
 obtain ⟨hg5, h0⟩ := guardS h0
 have hI := hI.mono (pick2 _ _ _)
 refine oC (Does.append (d := 9) (t := 52) (tx := 52) (ty := 52) (ys := byts a0) (zs := ([128] : List Int)) (x := .slice (some ⟨b4, 0, none⟩) (([128] : List Int).length) 1) (by kernel_rfl) Go.Proofs.Tryz.underlying52 ty5 (by kernel_rfl) hI (src_own Go.Proofs.Tryz.underlying52 (hI.mono (pick2 _ _ _)) (one_flat _ (fun _ => rfl))) (ownS_facts (hI.mono (pick2 _ _ _))).2.2 (by unfold LIM at hg5; omega) hg5 ?_)
 intro A6 cp7 w hI
 refine oP (r := []) [4] (S' := [(0, .string a0), (3, .slice A6 (((byts a0) ++ ([128] : List Int)).length) cp7)]) ?_
 refine oD (qT (cQ ?_))
 obtain ⟨r1, h1, h0⟩ := bindS h0
 refine CodT.meet1 (fun a w => ∃ (x8 : (List Int)) (A9 : Option Addr) (cp10 : Nat), x8 = r1 ∧ Fr 35 [(0, .string a0), (3, .slice A9 x8.length cp10)] a ∧ Inv w0 Z w (star (ownS 5 (cI .u8) 1 A9 cp10 x8) A)) ?_ ?_
 ·
  refine jB ?_
  have hI := hI.mono (pick2 _ _ _)
  have hI := hI.drop
  refine (fun a ha => wp_loopN (fun k a w => ∃ (x11 : (List Int)) (A12 : Option Addr) (cp13 : Nat), sha_Pad.l0 k x11 = some r1 ∧ Fr 35 [(0, .string a0), (3, .slice A12 x11.length cp13)] a ∧ Inv w0 Z w (star (ownS 5 (cI .u8) 1 A12 cp13 x11) A)) ?_ FU a w ⟨(byts a0) ++ ([128] : List Int), A6, cp7, h1, ha.keep [0, 3] (by kernel_rfl), hI⟩)
  clear h1 hI
  rintro k a w ⟨x11, A12, cp13, h1, ha, hI⟩
  rcases k with _ | k
  ·
   cases h1
  simp only [sha_Pad.l0] at h1
  refine CodT.of ?_ ha
  refine cQ (cQ (cR [0, 1, 2, 3] ?_))
  refine oP (r := []) [0, 1, 2, 3] (S' := [(0, .string a0), (3, .slice A12 x11.length cp13), (13, .bool (((x11.length : Int).tmod 64) != 56))]) ?_
  refine oD (qT ?_)
  by_cases hb14 : (((x11.length : Int).tmod 64) != 56) = true
  ·
   rw [if_pos hb14] at h1
   refine cY (b := ((x11.length : Int).tmod 64) != 56) hb14 ?_
   refine jS (qT (jB (cR [0, 1, 2, 3] ?_)))
   refine oP (r := [1, 2, 3]) [0] (S' := [(0, .string a0), (14, .slice A12 x11.length cp13)]) ?_
   refine oC (Does.buildSlice (en := (cI .u8)) (d := 15) (n := 1) (T := 52) (ps := [(0, .int .u8 0)]) ([0] : List Int) (by kernel_rfl) Go.Proofs.Tryz.underlying52 ty5 (by kernel_rfl) (by kernel_rfl) (by kernel_rfl) (by kernel_rfl) (len_all (fun _ => rfl)) hI ?_)
   intro b15 w hI
   obtain ⟨hg16, h1⟩ := guardS h1
   have hI := hI.mono (pick2 _ _ _)
   refine oC (Does.append (d := 16) (t := 52) (tx := 52) (ty := 52) (ys := x11) (zs := ([0] : List Int)) (x := .slice (some ⟨b15, 0, none⟩) (([0] : List Int).length) 1) (by kernel_rfl) Go.Proofs.Tryz.underlying52 ty5 (by kernel_rfl) hI (src_own Go.Proofs.Tryz.underlying52 (hI.mono (pick2 _ _ _)) (one_flat _ (fun _ => rfl))) (ownS_facts (hI.mono (pick2 _ _ _))).2.2 (by unfold LIM at hg16; omega) hg16 ?_)
   intro A17 cp18 w hI
   refine oP (r := []) [3] (S' := [(0, .string a0), (3, .slice A17 ((x11 ++ ([0] : List Int)).length) cp18)]) ?_
   refine oD (jN ?_)
   have hI := hI.mono (pick2 _ _ _)
   have hI := hI.drop
   exact jT fun a ha => ⟨k, Nat.lt_succ_self k, x11 ++ ([0] : List Int), A17, cp18, h1, ha.keep [0, 3] (by kernel_rfl), hI⟩
  ·
   rw [if_neg hb14] at h1
   refine cN (b := ((x11.length : Int).tmod 64) != 56) (by simpa using hb14) ?_
   refine jZ ?_
   refine jX (jX ?_)
   refine Qn.block ?_
   have e := someS h1
   subst e
   exact jT fun a ha => ⟨x11, A12, cp13, rfl, ha.keep [0, 3] (by kernel_rfl), hI⟩
 ·
  rintro a w ⟨x8, A9, cp10, rfl, ha, hI⟩
  try dsimp only at h0
  refine Qn.of ?_ ha
  refine qT (cQ (cR [0, 1, 2, 3, 4] ?_))
  refine oP (r := []) [0, 1, 2, 3, 4] (S' := [(3, .slice A9 x8.length cp10), (4, .int .u64 (bShl .u64 (wu64 (a0.size : Int)) 3))]) ?_
  refine oD (qT (cQ (cQ (cR [0] ?_))))
  refine oP (r := []) [0] (S' := [(3, .slice A9 x8.length cp10), (4, .int .u64 (bShl .u64 (wu64 (a0.size : Int)) 3)), (5, iv 7)]) ?_
  refine oD (qT ?_)
  obtain ⟨r1, h1, h0⟩ := bindS h0
  refine CodT.meet1 (fun a w => ∃ (x19 : (List Int)) (A20 : Option Addr) (cp21 : Nat), x19 = r1 ∧ Fr 35 [(3, .slice A20 x19.length cp21)] a ∧ Inv w0 Z w (star (ownS 5 (cI .u8) 1 A20 cp21 x19) A)) ?_ ?_
  ·
   refine jB ?_
   refine (fun a ha => wp_loopN (fun k a w => ∃ (x22 : (List Int)) (x25 : Int) (A23 : Option Addr) (cp24 : Nat), sha_Pad.l1 a0 k x22 x25 = some r1 ∧ Fr 35 [(3, .slice A23 x22.length cp24), (4, .int .u64 (bShl .u64 (wu64 (a0.size : Int)) 3)), (5, iv x25)] a ∧ Inv w0 Z w (star (ownS 5 (cI .u8) 1 A23 cp24 x22) A)) ?_ FU a w ⟨x8, 7, A9, cp10, h1, ha.keep [3, 4, 5] (by kernel_rfl), hI⟩)
   clear h1 hI
   rintro k a w ⟨x22, x25, A23, cp24, h1, ha, hI⟩
   rcases k with _ | k
   ·
    cases h1
   simp only [sha_Pad.l1] at h1
   refine CodT.of ?_ ha
   refine cQ (cQ (cR [0, 1] ?_))
   refine oP (r := []) [0, 1] (S' := [(3, .slice A23 x22.length cp24), (4, .int .u64 (bShl .u64 (wu64 (a0.size : Int)) 3)), (5, iv x25), (22, .bool (decide (x25 ≥ 0)))]) ?_
   refine oD (qT ?_)
   by_cases hb26 : (decide (x25 ≥ 0)) = true
   ·
    rw [if_pos hb26] at h1
    refine cY (b := decide (x25 ≥ 0)) hb26 ?_
    refine jS (qT (cQ (jB (cR [0, 1, 2, 3, 4, 5, 6, 7, 8] ?_))))
    refine oP (r := [4, 5, 6, 7, 8]) [0, 1, 2, 3] (S' := [(4, .int .u64 (bShl .u64 (wu64 (a0.size : Int)) 3)), (5, iv x25), (25, .slice A23 x22.length cp24), (26, .int .u64 (bShl .u64 (wu64 (a0.size : Int)) 3)), (28, iv (wi64 (8 * x25)))]) ?_
    obtain ⟨hg27, h1⟩ := guardS h1
    refine oC (jY (Yl.shr (d := 29) (T := 135) (k := .u64) (k' := .i64) (x := bShl .u64 (wu64 (a0.size : Int)) 3) (y := wi64 (8 * x25)) (by kernel_rfl) hg27) hI ?_)
    refine oP (r := [6, 7, 8]) [5] (S' := [(4, .int .u64 (bShl .u64 (wu64 (a0.size : Int)) 3)), (5, iv x25), (25, .slice A23 x22.length cp24), (30, .int .u8 (wu8 (bShr .u64 (bShl .u64 (wu64 (a0.size : Int)) 3) (wi64 (8 * x25)))))]) ?_
    refine oC (Does.buildSlice (en := (cI .u8)) (d := 31) (n := 1) (T := 52) (ps := [(0, .int .u8 (wu8 (bShr .u64 (bShl .u64 (wu64 (a0.size : Int)) 3) (wi64 (8 * x25)))))]) ([wu8 (bShr .u64 (bShl .u64 (wu64 (a0.size : Int)) 3) (wi64 (8 * x25)))] : List Int) (by kernel_rfl) Go.Proofs.Tryz.underlying52 ty5 (by kernel_rfl) (by kernel_rfl) (by kernel_rfl) (by kernel_rfl) (len_all (fun _ => rfl)) hI ?_)
    intro b28 w hI
    obtain ⟨hg29, h1⟩ := guardS h1
    have hI := hI.mono (pick2 _ _ _)
    refine oC (Does.append (d := 32) (t := 52) (tx := 52) (ty := 52) (ys := x22) (zs := ([wu8 (bShr .u64 (bShl .u64 (wu64 (a0.size : Int)) 3) (wi64 (8 * x25)))] : List Int)) (x := .slice (some ⟨b28, 0, none⟩) (([wu8 (bShr .u64 (bShl .u64 (wu64 (a0.size : Int)) 3) (wi64 (8 * x25)))] : List Int).length) 1) (by kernel_rfl) Go.Proofs.Tryz.underlying52 ty5 (by kernel_rfl) hI (src_own Go.Proofs.Tryz.underlying52 (hI.mono (pick2 _ _ _)) (one_flat _ (fun _ => rfl))) (ownS_facts (hI.mono (pick2 _ _ _))).2.2 (by unfold LIM at hg29; omega) hg29 ?_)
    intro A30 cp31 w hI
    refine oP (r := []) [8] (S' := [(3, .slice A30 ((x22 ++ ([wu8 (bShr .u64 (bShl .u64 (wu64 (a0.size : Int)) 3) (wi64 (8 * x25)))] : List Int)).length) cp31), (4, .int .u64 (bShl .u64 (wu64 (a0.size : Int)) 3)), (5, iv x25)]) ?_
    refine oD (jN (qT (cR [0, 1, 2] ?_)))
    refine oP (r := []) [0, 1, 2] (S' := [(3, .slice A30 ((x22 ++ ([wu8 (bShr .u64 (bShl .u64 (wu64 (a0.size : Int)) 3) (wi64 (8 * x25)))] : List Int)).length) cp31), (4, .int .u64 (bShl .u64 (wu64 (a0.size : Int)) 3)), (5, iv (wi64 (x25 - 1)))]) ?_
    refine oD ?_
    have hI := hI.mono (pick2 _ _ _)
    have hI := hI.drop
    exact jT fun a ha => ⟨k, Nat.lt_succ_self k, x22 ++ ([wu8 (bShr .u64 (bShl .u64 (wu64 (a0.size : Int)) 3) (wi64 (8 * x25)))] : List Int), wi64 (x25 - 1), A30, cp31, h1, ha.keep [3, 4, 5] (by kernel_rfl), hI⟩
   ·
    rw [if_neg hb26] at h1
    refine cN (b := decide (x25 ≥ 0)) (by simpa using hb26) ?_
    refine jZ ?_
    refine jX (jX ?_)
    refine Qn.block ?_
    have e := someS h1
    subst e
    exact jT fun a ha => ⟨x22, A23, cp24, rfl, ha.keep [3] (by kernel_rfl), hI⟩
  ·
   rintro a w ⟨x19, A20, cp21, rfl, ha, hI⟩
   try dsimp only at h0
   refine Qn.of ?_ ha
   refine qT (cQ (cR [0, 1, 2] ?_))
   refine oP (r := [1, 2]) [0] (S' := [(33, .slice A20 x19.length cp21)]) ?_
   refine oC (Does.b2sOwn (d := 34) (src := 52) (dst := 9) (xs := x19) (by kernel_rfl) Go.Proofs.Tryz.underlying52 Go.Proofs.Tryz.underlying5 Go.Proofs.Tryz.underlying9 hI ?_)
   refine oP (r := []) [2] (S' := [(2, .string (strOfNums x19))]) ?_
   refine oD (qT (jE ?_))
   have hI := hI.drop
   have e := someS h0
   subst e
   refine qK [2] (S' := [(2, .string (strOfNums x19))]) ?_
   exact post_ret (v := .string (strOfNums x19)) (fun a ha => jU (vs := [.string (strOfNums x19)]) (.tmp (t := 2) (by kernel_rfl) .nil) ha (by kernel_rfl)) ⟨rfl, hI⟩
/-- math/bits.RotateLeft32 -/
theorem c108 (w0 w : World) (Z : Hp) (A : HP) (hI : Inv w0 Z w A) (hT : Tabs Z) (a0 : Int) (a1 : Int) (r : Int) (h0 : bits_RotateLeft32 a0 a1 = some r) :
  Calls prog 108 #[.int .u32 a0, iv a1] w (fun e w' => e = .returned (.int .u32 r) ∧ Inv w0 Z w' A) := by
 have e4 := calls_intro (R := (fun e w' => e = .returned (.int .u32 r) ∧ Inv w0 Z w' A)) (w := w) (args := [.int .u32 a0, iv a1]) (fn := Go.Proofs.Tryz.f108) 17 Go.Proofs.Tryz.func108 (by rfl) Go.Proofs.Tryz.ntmps108 (by kernel_rfl)
 refine e4 ?_
 clear e4
 unfold bits_RotateLeft32 at h0
 refine cQ (cR [0] ?_)
 refine oP (r := []) [0] (S' := [(0, .int .u32 a0), (1, iv a1)]) ?_
 refine oD (qT (cQ (cR [0, 1, 2, 3] ?_)))
 refine oP (r := []) [0, 1, 2, 3] (S' := [(0, .int .u32 a0), (5, .int .u64 (bAnd .u64 (wu64 a1) 31))]) ?_
 refine oD (qT (cQ (cR [0, 1, 2, 3, 4, 5, 6, 7, 8] ?_)))
 refine oP (r := [2, 3, 4, 5, 6, 7, 8]) [0, 1] (S' := [(0, .int .u32 a0), (5, .int .u64 (bAnd .u64 (wu64 a1) 31)), (9, .int .u32 a0), (10, .int .u64 (bAnd .u64 (wu64 a1) 31))]) ?_
 obtain ⟨hg1, h0⟩ := guardS h0
 refine oC (jY (Yl.shl (d := 11) (T := 99) (k := .u32) (k' := .u64) (x := a0) (y := bAnd .u64 (wu64 a1) 31) (by kernel_rfl) hg1) hI ?_)
 refine oP (r := [6, 7, 8]) [3, 4, 5] (S' := [(11, .int .u32 (bShl .u32 a0 (bAnd .u64 (wu64 a1) 31))), (12, .int .u32 a0), (14, .int .u64 (wu64 (32 - (bAnd .u64 (wu64 a1) 31))))]) ?_
 obtain ⟨hg2, h0⟩ := guardS h0
 refine oC (jY (Yl.shr (d := 15) (T := 99) (k := .u32) (k' := .u64) (x := a0) (y := wu64 (32 - (bAnd .u64 (wu64 a1) 31))) (by kernel_rfl) hg2) hI ?_)
 refine oP (r := []) [7, 8] (S' := [(4, .int .u32 (bOr .u32 (bShl .u32 a0 (bAnd .u64 (wu64 a1) 31)) (bShr .u32 a0 (wu64 (32 - (bAnd .u64 (wu64 a1) 31))))))]) ?_
 refine oD (qT (jE ?_))
 have e := someS h0
 subst e
 refine qK [4] (S' := [(4, .int .u32 (bOr .u32 (bShl .u32 a0 (bAnd .u64 (wu64 a1) 31)) (bShr .u32 a0 (wu64 (32 - (bAnd .u64 (wu64 a1) 31))))))]) ?_
 exact post_ret (v := .int .u32 (bOr .u32 (bShl .u32 a0 (bAnd .u64 (wu64 a1) 31)) (bShr .u32 a0 (wu64 (32 - (bAnd .u64 (wu64 a1) 31)))))) (fun a ha => jU (vs := [.int .u32 (bOr .u32 (bShl .u32 a0 (bAnd .u64 (wu64 a1) 31)) (bShr .u32 a0 (wu64 (32 - (bAnd .u64 (wu64 a1) 31)))))]) (.tmp (t := 4) (by kernel_rfl) .nil) ha (by kernel_rfl)) ⟨rfl, hI⟩
/-- cenotaph/sha.right -/
theorem c91 (w0 w : World) (Z : Hp) (A : HP) (hI : Inv w0 Z w A) (hT : Tabs Z) (a0 : Int) (a1 : Int) (r : Int) (h0 : sha_right a0 a1 = some r) :
  Calls prog 91 #[.int .u32 a0, iv a1] w (fun e w' => e = .returned (.int .u32 r) ∧ Inv w0 Z w' A) := by
 have e4 := calls_intro (R := (fun e w' => e = .returned (.int .u32 r) ∧ Inv w0 Z w' A)) (w := w) (args := [.int .u32 a0, iv a1]) (fn := Go.Proofs.Tryz.f91) 9 Go.Proofs.Tryz.func91 (by rfl) Go.Proofs.Tryz.ntmps91 (by kernel_rfl)
 refine e4 ?_
 clear e4
 unfold sha_right at h0
 refine cQ (cR [0] ?_)
 refine oP (r := []) [0] (S' := [(0, .int .u32 a0), (1, iv a1)]) ?_
 refine oD (qT (cQ (cR [0, 1, 2, 3, 4] ?_)))
 refine oP (r := [3, 4]) [0, 1, 2] (S' := [(5, .int .u32 a0), (7, iv (wi64 (0 - a1)))]) ?_
 obtain ⟨y2, hc1, h0⟩ := bindS h0
 try dsimp only at h0
 refine oC (jC (d := some 8) (n := 108) (vs := [.int .u32 a0, iv (wi64 (0 - a1))]) (by kernel_rfl) en108 (c108 w0 w _ _ hI hT a0 (wi64 (0 - a1)) _ hc1) ?_)
 rintro e w ⟨rfl, hI⟩
 refine ⟨_, rfl, ?_⟩
 refine oP (r := []) [4] (S' := [(4, .int .u32 y2)]) ?_
 refine oD (qT (jE ?_))
 have e := someS h0
 subst e
 refine qK [4] (S' := [(4, .int .u32 y2)]) ?_
 exact post_ret (v := .int .u32 y2) (fun a ha => jU (vs := [.int .u32 y2]) (.tmp (t := 4) (by kernel_rfl) .nil) ha (by kernel_rfl)) ⟨rfl, hI⟩
/-- cenotaph/sha.words -/
theorem c90 (w0 w : World) (Z : Hp) (A : HP) (hI : Inv w0 Z w A) (hT : Tabs Z) (a0 : ByteArray) (r : (List Int)) (h0 : sha_words a0 = some r) :
  Calls prog 90 #[.string a0] w (fun e w' => e = .returned (.agg (cA (Value.int .u32) r).toArray) ∧ r.length = 64 ∧ Inv w0 Z w' A) := by
 have e4 := calls_intro (R := (fun e w' => e = .returned (.agg (cA (Value.int .u32) r).toArray) ∧ r.length = 64 ∧ Inv w0 Z w' A)) (w := w) (args := [.string a0]) (fn := Go.Proofs.Tryz.f90) 82 Go.Proofs.Tryz.func90 (by rfl) Go.Proofs.Tryz.ntmps90 (by kernel_rfl)
 refine e4 ?_
 clear e4
 unfold sha_words at h0
 refine cQ (cR [0] ?_)
 refine oC (jA (d := 2) (T := 101) (cA (Value.int .u32) (List.replicate 64 (0 : Int))) (by kernel_rfl) ty101 hI (by kernel_rfl) ?_)
 intro b1 w hI
 refine oD (qT (cQ (cR [0] ?_)))
 refine oC (jA (d := 3) (T := 101) (cA (Value.int .u32) (List.replicate 64 (0 : Int))) (by kernel_rfl) ty101 hI (by kernel_rfl) ?_)
 intro b2 w hI
 refine oD (qT (cQ (cQ (cR [0] ?_))))
 refine oP (r := []) [0] (S' := [(0, .string a0), (2, pb b1), (3, pb b2), (7, iv 0)]) ?_
 refine oD (qT ?_)
 obtain ⟨r1, h1, h0⟩ := bindS h0
 refine CodT.meet1 (fun a w => ∃ (x3 : (List Int)), x3 = r1 ∧ Fr 82 [(2, pb b1), (3, pb b2)] a ∧ Inv w0 Z w (star (pt b2 (.cells (cA (Value.int .u32) x3).toArray 101 (0, 0))) (star (pt b1 (.cells (cA (Value.int .u32) (List.replicate 64 (0 : Int))).toArray 101 (0, 0))) A)) ∧ x3.length = 64) ?_ ?_
 ·
  refine jB ?_
  refine (fun a ha => wp_loopN (fun k a w => ∃ (x5 : Int) (x6 : (List Int)), sha_words.l0 a0 k x5 x6 = some r1 ∧ Fr 82 [(0, .string a0), (2, pb b1), (3, pb b2), (7, iv x5)] a ∧ Inv w0 Z w (star (pt b2 (.cells (cA (Value.int .u32) x6).toArray 101 (0, 0))) (star (pt b1 (.cells (cA (Value.int .u32) (List.replicate 64 (0 : Int))).toArray 101 (0, 0))) A)) ∧ x6.length = 64) ?_ FU a w ⟨0, (List.replicate 64 (0 : Int)), h1, ha.keep [0, 2, 3, 7] (by kernel_rfl), hI, (by kernel_rfl)⟩)
  clear h1 hI
  rintro k a w ⟨x5, x6, h1, ha, hI, hl7⟩
  rcases k with _ | k
  ·
   cases h1
  simp only [sha_words.l0] at h1
  refine CodT.of ?_ ha
  refine cQ (cR [0] ?_)
  refine oP (r := []) [0] (S' := [(0, .string a0), (2, pb b1), (3, pb b2), (7, iv x5), (8, .bool (decide (x5 < 64)))]) ?_
  refine oD (qT (cQ ?_))
  by_cases hb8 : (decide (x5 < 64)) = true
  ·
   rw [if_pos hb8] at h1
   refine cY (b := decide (x5 < 64)) hb8 ?_
   refine jS (qT ?_)
   obtain ⟨r2, h2, h1⟩ := bindS h1
   refine jM (fun a w => ∃ (x9 : (List Int)), x9 = r2 ∧ Fr 82 [(0, .string a0), (2, pb b1), (3, pb b2), (7, iv x5)] a ∧ Inv w0 Z w (star (pt b2 (.cells (cA (Value.int .u32) x9).toArray 101 (0, 0))) (star (pt b1 (.cells (cA (Value.int .u32) (List.replicate 64 (0 : Int))).toArray 101 (0, 0))) A)) ∧ x9.length = 64) ?_ ?_
   ·
    refine jB (cQ (cR [0, 1] ?_))
    refine oP (r := []) [0, 1] (S' := [(0, .string a0), (2, pb b1), (3, pb b2), (4, iv x5), (7, iv x5)]) ?_
    refine oD (qT (cQ (cQ (cR [0, 1] ?_))))
    refine oP (r := []) [0, 1] (S' := [(0, .string a0), (2, pb b1), (3, pb b2), (4, iv x5), (7, iv x5), (11, .bool (decide (x5 < 16)))]) ?_
    refine oD (qT ?_)
    by_cases hb11 : (decide (x5 < 16)) = true
    ·
     rw [if_pos hb11] at h2
     refine cY (b := decide (x5 < 16)) hb11 ?_
     refine cQ ?_
     refine CodT.drawI (n := 32) [31] (by kernel_rfl) (by kernel_rfl) hI ?_
     intro w hI
     refine gP 0 12 (iv x5) ?_
     refine gP 1 13 (.string a0) ?_
     refine gP 2 14 (iv x5) ?_
     refine gP 3 15 (iv (wi64 (4 * x5))) ?_
     refine gP 7 19 (.string a0) ?_
     refine gP 8 20 (iv x5) ?_
     refine gP 9 21 (iv (wi64 (4 * x5))) ?_
     refine gP 10 22 (iv (wi64 ((wi64 (4 * x5)) + 1))) ?_
     refine gP 15 27 (.string a0) ?_
     refine gP 16 28 (iv x5) ?_
     refine gP 17 29 (iv (wi64 (4 * x5))) ?_
     refine gP 18 30 (iv (wi64 ((wi64 (4 * x5)) + 2))) ?_
     refine gP 23 35 (.string a0) ?_
     refine gP 24 36 (iv x5) ?_
     refine gP 25 37 (iv (wi64 (4 * x5))) ?_
     refine gP 26 38 (iv (wi64 ((wi64 (4 * x5)) + 3))) ?_
     obtain ⟨hg12, h2⟩ := guardS h2
     refine gR (i := 4) 2 (Yl.indexStr (d := 16) (T := 9) (k := .i64) (j := wi64 (4 * x5)) (s := a0) (by kernel_rfl) Go.Proofs.Tryz.underlying9 hg12.1 hg12.2) hI ?_
     refine gP 5 17 (.int .u32 (wu32 (bt a0 (wi64 (4 * x5))))) ?_
     refine gP 6 18 (.int .u32 (bShl .u32 (wu32 (bt a0 (wi64 (4 * x5)))) 24)) ?_
     obtain ⟨hg13, h2⟩ := guardS h2
     refine gR (i := 11) 2 (Yl.indexStr (d := 23) (T := 9) (k := .i64) (j := wi64 ((wi64 (4 * x5)) + 1)) (s := a0) (by kernel_rfl) Go.Proofs.Tryz.underlying9 hg13.1 hg13.2) hI ?_
     refine gP 12 24 (.int .u32 (wu32 (bt a0 (wi64 ((wi64 (4 * x5)) + 1))))) ?_
     refine gP 13 25 (.int .u32 (bShl .u32 (wu32 (bt a0 (wi64 ((wi64 (4 * x5)) + 1)))) 16)) ?_
     refine gP 14 26 (.int .u32 (bOr .u32 (bShl .u32 (wu32 (bt a0 (wi64 (4 * x5)))) 24) (bShl .u32 (wu32 (bt a0 (wi64 ((wi64 (4 * x5)) + 1)))) 16))) ?_
     obtain ⟨hg14, h2⟩ := guardS h2
     refine gR (i := 19) 2 (Yl.indexStr (d := 31) (T := 9) (k := .i64) (j := wi64 ((wi64 (4 * x5)) + 2)) (s := a0) (by kernel_rfl) Go.Proofs.Tryz.underlying9 hg14.1 hg14.2) hI ?_
     refine gP 20 32 (.int .u32 (wu32 (bt a0 (wi64 ((wi64 (4 * x5)) + 2))))) ?_
     refine gP 21 33 (.int .u32 (bShl .u32 (wu32 (bt a0 (wi64 ((wi64 (4 * x5)) + 2)))) 8)) ?_
     refine gP 22 34 (.int .u32 (bOr .u32 (bOr .u32 (bShl .u32 (wu32 (bt a0 (wi64 (4 * x5)))) 24) (bShl .u32 (wu32 (bt a0 (wi64 ((wi64 (4 * x5)) + 1)))) 16)) (bShl .u32 (wu32 (bt a0 (wi64 ((wi64 (4 * x5)) + 2)))) 8))) ?_
     obtain ⟨hg15, h2⟩ := guardS h2
     refine gR (i := 27) 2 (Yl.indexStr (d := 39) (T := 9) (k := .i64) (j := wi64 ((wi64 (4 * x5)) + 3)) (s := a0) (by kernel_rfl) Go.Proofs.Tryz.underlying9 hg15.1 hg15.2) hI ?_
     refine gP 28 40 (.int .u32 (wu32 (bt a0 (wi64 ((wi64 (4 * x5)) + 3))))) ?_
     refine gP 29 41 (.int .u32 (bOr .u32 (bOr .u32 (bOr .u32 (bShl .u32 (wu32 (bt a0 (wi64 (4 * x5)))) 24) (bShl .u32 (wu32 (bt a0 (wi64 ((wi64 (4 * x5)) + 1)))) 16)) (bShl .u32 (wu32 (bt a0 (wi64 ((wi64 (4 * x5)) + 2)))) 8)) (wu32 (bt a0 (wi64 ((wi64 (4 * x5)) + 3)))))) ?_
     obtain ⟨hg16, h2⟩ := guardS h2
     refine gR (i := 30) 2 (Yl.indexArr (d := 42) (T := 101) (k := .i64) (j := x5) (g := b2) (o := 0) (by kernel_rfl) Go.Proofs.Tryz.underlying101 ty99 hg16.1 hg16.2) hI ?_
     refine jO (i := 31) (by kernel_rfl) (Does.storeArr (e := (Value.int .u32)) (xs := x6) (u := bOr .u32 (bOr .u32 (bOr .u32 (bShl .u32 (wu32 (bt a0 (wi64 (4 * x5)))) 24) (bShl .u32 (wu32 (bt a0 (wi64 ((wi64 (4 * x5)) + 1)))) 16)) (bShl .u32 (wu32 (bt a0 (wi64 ((wi64 (4 * x5)) + 2)))) 8)) (wu32 (bt a0 (wi64 ((wi64 (4 * x5)) + 3))))) (T := 99) (b := b2) (j := x5) (by kernel_rfl) ty99 hI (by kernel_rfl) (by kernel_rfl) hg16.1 (by have := And.intro hl7 hg16.2; omega) ?_)
     intro w hI
     refine ⟨fun h => absurd h (by decide), ?_⟩
     refine jD (by kernel_rfl) ?_
     refine qT ?_
     refine jZ ?_
     refine jX ?_
     refine Qn.block ?_
     have e := someS h2
     subst e
     exact jT fun a ha => ⟨st x6 x5 (bOr .u32 (bOr .u32 (bOr .u32 (bShl .u32 (wu32 (bt a0 (wi64 (4 * x5)))) 24) (bShl .u32 (wu32 (bt a0 (wi64 ((wi64 (4 * x5)) + 1)))) 16)) (bShl .u32 (wu32 (bt a0 (wi64 ((wi64 (4 * x5)) + 2)))) 8)) (wu32 (bt a0 (wi64 ((wi64 (4 * x5)) + 3))))), rfl, ha.keep [0, 2, 3, 7] (by kernel_rfl), hI, ((st_length _ _ _).trans hl7)⟩
    ·
     rw [if_neg hb11] at h2
     refine cN (b := decide (x5 < 16)) (by simpa using hb11) ?_
     refine jS (qT (cQ ?_))
     refine CodT.drawI (n := 10) [] (by kernel_rfl) (by kernel_rfl) hI ?_
     intro w hI
     refine gP 0 43 (iv x5) ?_
     refine gP 1 44 (iv (wi64 (x5 - 15))) ?_
     refine gP 4 47 (iv x5) ?_
     refine gP 5 48 (iv (wi64 (x5 - 2))) ?_
     obtain ⟨hg17, h2⟩ := guardS h2
     refine gR (i := 2) 2 (Yl.indexArr (d := 45) (T := 101) (k := .i64) (j := wi64 (x5 - 15)) (g := b2) (o := 0) (by kernel_rfl) Go.Proofs.Tryz.underlying101 ty99 hg17.1 hg17.2) hI ?_
     refine gR (i := 3) 2 (jL (d := 46) (T := 99) (v := .int .u32 (gt x6 (wi64 (x5 - 15)))) (by kernel_rfl) (ldB ty99 (l := cA (Value.int .u32) x6) (o := 0 + (wi64 (x5 - 15)).toNat * 1) (v := .int .u32 (gt x6 (wi64 (x5 - 15)))) (ent_refl _) (arr_get _ _ hg17.1 (by have := And.intro hl7 hg17.2; omega)))) hI ?_
     refine gP 8 5 (.int .u32 (gt x6 (wi64 (x5 - 15)))) ?_
     obtain ⟨hg18, h2⟩ := guardS h2
     refine gR (i := 6) 2 (Yl.indexArr (d := 49) (T := 101) (k := .i64) (j := wi64 (x5 - 2)) (g := b2) (o := 0) (by kernel_rfl) Go.Proofs.Tryz.underlying101 ty99 hg18.1 hg18.2) hI ?_
     refine gR (i := 7) 2 (jL (d := 50) (T := 99) (v := .int .u32 (gt x6 (wi64 (x5 - 2)))) (by kernel_rfl) (ldB ty99 (l := cA (Value.int .u32) x6) (o := 0 + (wi64 (x5 - 2)).toNat * 1) (v := .int .u32 (gt x6 (wi64 (x5 - 2)))) (ent_refl _) (arr_get _ _ hg18.1 (by have := And.intro hl7 hg18.2; omega)))) hI ?_
     refine gP 9 6 (.int .u32 (gt x6 (wi64 (x5 - 2)))) ?_
     refine jD (by kernel_rfl) ?_
     refine qT ?_
     refine CodT.drawI (n := 30) [29] (by kernel_rfl) (by kernel_rfl) hI ?_
     intro w hI
     refine gP 0 51 (iv x5) ?_
     refine gP 1 52 (iv x5) ?_
     refine gP 2 53 (iv (wi64 (x5 - 16))) ?_
     refine gP 5 56 (.int .u32 (gt x6 (wi64 (x5 - 15)))) ?_
     refine gP 7 58 (.int .u32 (gt x6 (wi64 (x5 - 15)))) ?_
     refine gP 10 61 (.int .u32 (gt x6 (wi64 (x5 - 15)))) ?_
     refine gP 11 62 (.int .u32 (bShr .u32 (gt x6 (wi64 (x5 - 15))) 3)) ?_
     refine gP 14 65 (iv x5) ?_
     refine gP 15 66 (iv (wi64 (x5 - 7))) ?_
     refine gP 19 70 (.int .u32 (gt x6 (wi64 (x5 - 2)))) ?_
     refine gP 21 72 (.int .u32 (gt x6 (wi64 (x5 - 2)))) ?_
     refine gP 24 75 (.int .u32 (gt x6 (wi64 (x5 - 2)))) ?_
     refine gP 25 76 (.int .u32 (bShr .u32 (gt x6 (wi64 (x5 - 2))) 10)) ?_
     obtain ⟨hg19, h2⟩ := guardS h2
     refine gR (i := 3) 2 (Yl.indexArr (d := 54) (T := 101) (k := .i64) (j := wi64 (x5 - 16)) (g := b2) (o := 0) (by kernel_rfl) Go.Proofs.Tryz.underlying101 ty99 hg19.1 hg19.2) hI ?_
     refine gR (i := 4) 2 (jL (d := 55) (T := 99) (v := .int .u32 (gt x6 (wi64 (x5 - 16)))) (by kernel_rfl) (ldB ty99 (l := cA (Value.int .u32) x6) (o := 0 + (wi64 (x5 - 16)).toNat * 1) (v := .int .u32 (gt x6 (wi64 (x5 - 16)))) (ent_refl _) (arr_get _ _ hg19.1 (by have := And.intro hl7 hg19.2; omega)))) hI ?_
     obtain ⟨hg20, h2⟩ := guardS h2
     refine gR (i := 16) 2 (Yl.indexArr (d := 67) (T := 101) (k := .i64) (j := wi64 (x5 - 7)) (g := b2) (o := 0) (by kernel_rfl) Go.Proofs.Tryz.underlying101 ty99 hg20.1 hg20.2) hI ?_
     refine gR (i := 17) 2 (jL (d := 68) (T := 99) (v := .int .u32 (gt x6 (wi64 (x5 - 7)))) (by kernel_rfl) (ldB ty99 (l := cA (Value.int .u32) x6) (o := 0 + (wi64 (x5 - 7)).toNat * 1) (v := .int .u32 (gt x6 (wi64 (x5 - 7)))) (ent_refl _) (arr_get _ _ hg20.1 (by have := And.intro hl7 hg20.2; omega)))) hI ?_
     obtain ⟨y22, hc21, h2⟩ := bindS h2
     try dsimp only at h2
     refine jO (i := 6) (by kernel_rfl) (jC (d := some 57) (n := 91) (vs := [.int .u32 (gt x6 (wi64 (x5 - 15))), iv 7]) (by kernel_rfl) en91 (c91 w0 w _ _ hI hT (gt x6 (wi64 (x5 - 15))) 7 _ hc21) ?_)
     rintro e w ⟨rfl, hI⟩
     refine ⟨_, rfl, ?_⟩
     refine ⟨fun _ _ => hI, ?_⟩
     obtain ⟨y24, hc23, h2⟩ := bindS h2
     try dsimp only at h2
     refine jO (i := 8) (by kernel_rfl) (jC (d := some 59) (n := 91) (vs := [.int .u32 (gt x6 (wi64 (x5 - 15))), iv 18]) (by kernel_rfl) en91 (c91 w0 w _ _ hI hT (gt x6 (wi64 (x5 - 15))) 18 _ hc23) ?_)
     rintro e w ⟨rfl, hI⟩
     refine ⟨_, rfl, ?_⟩
     refine ⟨fun _ _ => hI, ?_⟩
     refine gP 9 60 (.int .u32 (bXor .u32 y22 y24)) ?_
     refine gP 12 63 (.int .u32 (bXor .u32 (bXor .u32 y22 y24) (bShr .u32 (gt x6 (wi64 (x5 - 15))) 3))) ?_
     refine gP 13 64 (.int .u32 (wu32 ((gt x6 (wi64 (x5 - 16))) + (bXor .u32 (bXor .u32 y22 y24) (bShr .u32 (gt x6 (wi64 (x5 - 15))) 3))))) ?_
     refine gP 18 69 (.int .u32 (wu32 ((wu32 ((gt x6 (wi64 (x5 - 16))) + (bXor .u32 (bXor .u32 y22 y24) (bShr .u32 (gt x6 (wi64 (x5 - 15))) 3)))) + (gt x6 (wi64 (x5 - 7)))))) ?_
     obtain ⟨y26, hc25, h2⟩ := bindS h2
     try dsimp only at h2
     refine jO (i := 20) (by kernel_rfl) (jC (d := some 71) (n := 91) (vs := [.int .u32 (gt x6 (wi64 (x5 - 2))), iv 17]) (by kernel_rfl) en91 (c91 w0 w _ _ hI hT (gt x6 (wi64 (x5 - 2))) 17 _ hc25) ?_)
     rintro e w ⟨rfl, hI⟩
     refine ⟨_, rfl, ?_⟩
     refine ⟨fun _ _ => hI, ?_⟩
     obtain ⟨y28, hc27, h2⟩ := bindS h2
     try dsimp only at h2
     refine jO (i := 22) (by kernel_rfl) (jC (d := some 73) (n := 91) (vs := [.int .u32 (gt x6 (wi64 (x5 - 2))), iv 19]) (by kernel_rfl) en91 (c91 w0 w _ _ hI hT (gt x6 (wi64 (x5 - 2))) 19 _ hc27) ?_)
     rintro e w ⟨rfl, hI⟩
     refine ⟨_, rfl, ?_⟩
     refine ⟨fun _ _ => hI, ?_⟩
     refine gP 23 74 (.int .u32 (bXor .u32 y26 y28)) ?_
     refine gP 26 77 (.int .u32 (bXor .u32 (bXor .u32 y26 y28) (bShr .u32 (gt x6 (wi64 (x5 - 2))) 10))) ?_
     refine gP 27 78 (.int .u32 (wu32 ((wu32 ((wu32 ((gt x6 (wi64 (x5 - 16))) + (bXor .u32 (bXor .u32 y22 y24) (bShr .u32 (gt x6 (wi64 (x5 - 15))) 3)))) + (gt x6 (wi64 (x5 - 7))))) + (bXor .u32 (bXor .u32 y26 y28) (bShr .u32 (gt x6 (wi64 (x5 - 2))) 10))))) ?_
     obtain ⟨hg29, h2⟩ := guardS h2
     refine gR (i := 28) 2 (Yl.indexArr (d := 79) (T := 101) (k := .i64) (j := x5) (g := b2) (o := 0) (by kernel_rfl) Go.Proofs.Tryz.underlying101 ty99 hg29.1 hg29.2) hI ?_
     refine jO (i := 29) (by kernel_rfl) (Does.storeArr (e := (Value.int .u32)) (xs := x6) (u := wu32 ((wu32 ((wu32 ((gt x6 (wi64 (x5 - 16))) + (bXor .u32 (bXor .u32 y22 y24) (bShr .u32 (gt x6 (wi64 (x5 - 15))) 3)))) + (gt x6 (wi64 (x5 - 7))))) + (bXor .u32 (bXor .u32 y26 y28) (bShr .u32 (gt x6 (wi64 (x5 - 2))) 10)))) (T := 99) (b := b2) (j := x5) (by kernel_rfl) ty99 hI (by kernel_rfl) (by kernel_rfl) hg29.1 (by have := And.intro hl7 hg29.2; omega) ?_)
     intro w hI
     refine ⟨fun h => absurd h (by decide), ?_⟩
     refine jD (by kernel_rfl) ?_
     refine jN ?_
     have e := someS h2
     subst e
     exact jT fun a ha => ⟨st x6 x5 (wu32 ((wu32 ((wu32 ((gt x6 (wi64 (x5 - 16))) + (bXor .u32 (bXor .u32 y22 y24) (bShr .u32 (gt x6 (wi64 (x5 - 15))) 3)))) + (gt x6 (wi64 (x5 - 7))))) + (bXor .u32 (bXor .u32 y26 y28) (bShr .u32 (gt x6 (wi64 (x5 - 2))) 10)))), rfl, ha.keep [0, 2, 3, 7] (by kernel_rfl), hI, ((st_length _ _ _).trans hl7)⟩
   ·
    rintro a w ⟨x9, rfl, ha, hI, hl10⟩
    try dsimp only at h1
    refine CodT.of ?_ ha
    refine cR [0, 1] ?_
    refine oP (r := []) [0, 1] (S' := [(0, .string a0), (2, pb b1), (3, pb b2), (7, iv (wi64 (x5 + 1)))]) ?_
    refine oD ?_
    exact jT fun a ha => ⟨k, Nat.lt_succ_self k, wi64 (x5 + 1), x9, h1, ha.keep [0, 2, 3, 7] (by kernel_rfl), hI, hl10⟩
  ·
   rw [if_neg hb8] at h1
   refine cN (b := decide (x5 < 64)) (by simpa using hb8) ?_
   refine jZ ?_
   refine jX (jX ?_)
   refine Qn.block ?_
   have e := someS h1
   subst e
   exact jT fun a ha => ⟨x6, rfl, ha.keep [2, 3] (by kernel_rfl), hI, hl7⟩
 ·
  rintro a w ⟨x3, rfl, ha, hI, hl4⟩
  try dsimp only at h0
  refine Qn.of ?_ ha
  refine qT (cQ (cR [0, 1] ?_))
  refine oC (jY (jL (d := 81) (T := 101) (v := .agg (cA (Value.int .u32) x3).toArray) (by kernel_rfl) (ldBN ty101 (l := cA (Value.int .u32) x3) (o := 0) (cs := cA (Value.int .u32) x3) (ent_refl _) ((cA_length _ _).trans hl4) (whole _ _ ((cA_length _ _).trans hl4)))) hI ?_)
  have hI := hI.mono (pick2 _ _ _)
  refine oC (jV (T := 101) (b := b1) (n := 64) (xs := (List.replicate 64 (0 : Int))) (ys := x3) (by kernel_rfl) ty101 hI (fun _ => rfl) (by kernel_rfl) hl4 ?_)
  intro w hI
  refine oD (qT (jE ?_))
  have hL30 := (ldBN ty101 (l := cA (Value.int .u32) x3) (o := 0) (cs := cA (Value.int .u32) x3) (ent_refl _) ((cA_length _ _).trans hl4) (whole _ _ ((cA_length _ _).trans hl4))) w hI
  have hI := hI.drop
  have hI := hI.drop
  have e := someS h0
  subst e
  refine qK [2] (S' := [(2, pb b1)]) ?_
  exact post_ret (v := .agg (cA (Value.int .u32) x3).toArray) (fun a ha => jU (vs := [.agg (cA (Value.int .u32) x3).toArray]) (.cell (t := 2) (T := 101) (ad := ⟨b1, 0, none⟩) (by kernel_rfl) hL30 .nil) ha (by kernel_rfl)) ⟨rfl, hl4, hI⟩
/-- cenotaph/sha.mix -/
theorem c70 (w0 w : World) (Z : Hp) (A : HP) (hI : Inv w0 Z w A) (hT : Tabs Z) (a0 : (List Int)) (hl_a0 : a0.length = 8) (a1 : (List Int)) (hl_a1 : a1.length = 64) (a2 : ByteArray) (r : (List Int)) (h0 : sha_mix a0 a1 a2 = some r) :
  Calls prog 70 #[.agg (cA (Value.int .u32) a0).toArray, .agg (cA (Value.int .u32) a1).toArray, .string a2] w (fun e w' => e = .returned (.agg (cA (Value.int .u32) r).toArray) ∧ r.length = 8 ∧ Inv w0 Z w' A) := by
 have e4 := calls_intro (R := (fun e w' => e = .returned (.agg (cA (Value.int .u32) r).toArray) ∧ r.length = 8 ∧ Inv w0 Z w' A)) (w := w) (args := [.agg (cA (Value.int .u32) a0).toArray, .agg (cA (Value.int .u32) a1).toArray, .string a2]) (fn := Go.Proofs.Tryz.f70) 104 Go.Proofs.Tryz.func70 (by rfl) Go.Proofs.Tryz.ntmps70 (by kernel_rfl)
 refine e4 ?_
 clear e4
 unfold sha_mix at h0
 refine cQ (cR [0, 1, 2] ?_)
 refine oC (Does.boxL (d := 3) (T := 100) (v := .agg (cA (Value.int .u32) a0).toArray) (cA (Value.int .u32) a0) (by kernel_rfl) hI (by kernel_rfl) ?_)
 intro b1 w hI
 refine oC (Does.boxL (d := 4) (T := 101) (v := .agg (cA (Value.int .u32) a1).toArray) (cA (Value.int .u32) a1) (by kernel_rfl) hI (by kernel_rfl) ?_)
 intro b2 w hI
 refine oC (jA (d := 6) (T := 100) (cA (Value.int .u32) (List.replicate 8 (0 : Int))) (by kernel_rfl) ty100 hI (by kernel_rfl) ?_)
 intro b3 w hI
 refine oD (qT (cQ (cR [0, 1, 2] ?_)))
 refine oC (jY (jL (d := 15) (T := 100) (v := .agg (cA (Value.int .u32) a0).toArray) (by kernel_rfl) (ldBN ty100 (l := cA (Value.int .u32) a0) (o := 0) (cs := cA (Value.int .u32) a0) (pick3 _ _ _ _) ((cA_length _ _).trans hl_a0) (whole _ _ ((cA_length _ _).trans hl_a0)))) hI ?_)
 refine oC (jA (d := 7) (T := 100) (cA (Value.int .u32) (List.replicate 8 (0 : Int))) (by kernel_rfl) ty100 hI (by kernel_rfl) ?_)
 intro b4 w hI
 refine oC (jV (T := 100) (b := b4) (n := 8) (xs := (List.replicate 8 (0 : Int))) (ys := a0) (by kernel_rfl) ty100 hI (fun _ => rfl) (by kernel_rfl) hl_a0 ?_)
 intro w hI
 refine oD (qT (cQ (cQ (cR [0, 1, 2] ?_))))
 refine oP (r := [1, 2]) [0] (S' := [(3, pb b1), (4, pb b2), (6, pb b3), (7, pb b4), (16, .string a2)]) ?_
 obtain ⟨y6, hc5, h0⟩ := bindS h0
 try dsimp only at h0
 refine oC (jC (d := some 17) (n := 90) (vs := [.string a2]) (by kernel_rfl) en90 (c90 w0 w _ _ hI hT a2 _ hc5) ?_)
 rintro e w ⟨rfl, hl7, hI⟩
 refine ⟨_, rfl, ?_⟩
 refine oP (r := []) [2] (S' := [(3, pb b1), (4, pb b2), (6, pb b3), (7, pb b4), (17, .agg (cA (Value.int .u32) y6).toArray), (18, iv 0)]) ?_
 refine oD (qT ?_)
 obtain ⟨r1, h1, h0⟩ := bindS h0
 refine CodT.meet1 (fun a w => ∃ (x8 : (List Int)), x8 = r1 ∧ Fr 104 [(3, pb b1), (6, pb b3), (7, pb b4)] a ∧ Inv w0 Z w (star (pt b4 (.cells (cA (Value.int .u32) x8).toArray 100 (0, 0))) (star (pt b3 (.cells (cA (Value.int .u32) (List.replicate 8 (0 : Int))).toArray 100 (0, 0))) (star (pt b1 (.cells (cA (Value.int .u32) a0).toArray 100 (0, 0))) A))) ∧ x8.length = 8) ?_ ?_
 ·
  refine jB ?_
  refine (fun a ha => wp_loopN (fun k a w => ∃ (x10 : Int) (x11 : (List Int)), sha_mix.l0 a1 y6 k x10 x11 = some r1 ∧ Fr 104 [(3, pb b1), (4, pb b2), (6, pb b3), (7, pb b4), (17, .agg (cA (Value.int .u32) y6).toArray), (18, iv x10)] a ∧ Inv w0 Z w (star (pt b4 (.cells (cA (Value.int .u32) x11).toArray 100 (0, 0))) (star (pt b3 (.cells (cA (Value.int .u32) (List.replicate 8 (0 : Int))).toArray 100 (0, 0))) (star (pt b2 (.cells (cA (Value.int .u32) a1).toArray 101 (0, 0))) (star (pt b1 (.cells (cA (Value.int .u32) a0).toArray 100 (0, 0))) A)))) ∧ x11.length = 8) ?_ FU a w ⟨0, a0, h1, ha.keep [3, 4, 6, 7, 17, 18] (by kernel_rfl), hI, hl_a0⟩)
  clear h1 hI
  rintro k a w ⟨x10, x11, h1, ha, hI, hl12⟩
  rcases k with _ | k
  ·
   cases h1
  simp only [sha_mix.l0] at h1
  refine CodT.of ?_ ha
  refine cQ (cR [0] ?_)
  refine oP (r := []) [0] (S' := [(3, pb b1), (4, pb b2), (6, pb b3), (7, pb b4), (17, .agg (cA (Value.int .u32) y6).toArray), (18, iv x10), (19, .bool (decide (x10 < 64)))]) ?_
  refine oD (qT (cQ ?_))
  by_cases hb13 : (decide (x10 < 64)) = true
  ·
   rw [if_pos hb13] at h1
   refine cY (b := decide (x10 < 64)) hb13 ?_
   refine jS (qT (cQ (jB (cQ (cR [0, 1, 2, 3] ?_)))))
   refine oP (r := [1, 2, 3]) [0] (S' := [(3, pb b1), (4, pb b2), (6, pb b3), (7, pb b4), (17, .agg (cA (Value.int .u32) y6).toArray), (18, iv x10), (20, iv x10)]) ?_
   obtain ⟨hg14, h1⟩ := guardS h1
   refine oC (jY (Yl.indexAgg (d := 21) (T := 101) (k := .i64) (j := x10) (l := cA (Value.int .u32) y6) (v := .int .u32 (gt y6 x10)) (by kernel_rfl) Go.Proofs.Tryz.underlying101 ty99 hg14.1 hg14.2 (arr_get' _ _ hg14.1 (by have := And.intro hl7 hg14.2; omega))) hI ?_)
   refine oP (r := []) [2, 3] (S' := [(3, pb b1), (4, pb b2), (6, pb b3), (7, pb b4), (8, iv x10), (9, .int .u32 (gt y6 x10)), (17, .agg (cA (Value.int .u32) y6).toArray), (18, iv x10)]) ?_
   refine oD (qT (cQ ?_))
   refine CodT.drawI (n := 6) [] (by kernel_rfl) (by kernel_rfl) hI ?_
   intro w hI
   refine gP 0 22 (pb b4) ?_
   refine gP 2 24 (.pointer (some ⟨b4, 4, none⟩)) ?_
   refine gR (i := 1) 2 (jL (d := 23) (T := 99) (v := .int .u32 (gt x11 0)) (by kernel_rfl) (ldB ty99 (l := cA (Value.int .u32) x11) (o := 0) (v := .int .u32 (gt x11 0)) (ent_refl _) (arr_getC _ _ 0 hl12 (by kernel_rfl)))) hI ?_
   refine gP 4 10 (.int .u32 (gt x11 0)) ?_
   refine gR (i := 3) 2 (jL (d := 25) (T := 99) (v := .int .u32 (gt x11 4)) (by kernel_rfl) (ldB ty99 (l := cA (Value.int .u32) x11) (o := 4) (v := .int .u32 (gt x11 4)) (ent_refl _) (arr_getC _ _ 4 hl12 (by kernel_rfl)))) hI ?_
   refine gP 5 11 (.int .u32 (gt x11 4)) ?_
   refine jD (by kernel_rfl) ?_
   refine qT (cQ ?_)
   refine CodT.drawI (n := 29) [] (by kernel_rfl) (by kernel_rfl) hI ?_
   intro w hI
   refine gP 0 26 (.pointer (some ⟨b4, 7, none⟩)) ?_
   refine gP 2 28 (.int .u32 (gt x11 4)) ?_
   refine gP 4 30 (.int .u32 (gt x11 4)) ?_
   refine gP 7 33 (.int .u32 (gt x11 4)) ?_
   refine gP 11 37 (.int .u32 (gt x11 4)) ?_
   refine gP 12 38 (.pointer (some ⟨b4, 5, none⟩)) ?_
   refine gP 15 41 (.int .u32 (gt x11 4)) ?_
   refine gP 16 42 (.int .u32 (bNot .u32 (gt x11 4))) ?_
   refine gP 17 43 (.pointer (some ⟨b4, 6, none⟩)) ?_
   refine gP 22 48 (iv x10) ?_
   refine gP 26 52 (.int .u32 (gt y6 x10)) ?_
   refine gR (i := 1) 2 (jL (d := 27) (T := 99) (v := .int .u32 (gt x11 7)) (by kernel_rfl) (ldB ty99 (l := cA (Value.int .u32) x11) (o := 7) (v := .int .u32 (gt x11 7)) (ent_refl _) (arr_getC _ _ 7 hl12 (by kernel_rfl)))) hI ?_
   refine gR (i := 13) 2 (jL (d := 39) (T := 99) (v := .int .u32 (gt x11 5)) (by kernel_rfl) (ldB ty99 (l := cA (Value.int .u32) x11) (o := 5) (v := .int .u32 (gt x11 5)) (ent_refl _) (arr_getC _ _ 5 hl12 (by kernel_rfl)))) hI ?_
   refine gP 14 40 (.int .u32 (bAnd .u32 (gt x11 4) (gt x11 5))) ?_
   refine gR (i := 18) 2 (jL (d := 44) (T := 99) (v := .int .u32 (gt x11 6)) (by kernel_rfl) (ldB ty99 (l := cA (Value.int .u32) x11) (o := 6) (v := .int .u32 (gt x11 6)) (ent_refl _) (arr_getC _ _ 6 hl12 (by kernel_rfl)))) hI ?_
   refine gP 19 45 (.int .u32 (bAnd .u32 (bNot .u32 (gt x11 4)) (gt x11 6))) ?_
   refine gP 20 46 (.int .u32 (bXor .u32 (bAnd .u32 (gt x11 4) (gt x11 5)) (bAnd .u32 (bNot .u32 (gt x11 4)) (gt x11 6)))) ?_
   obtain ⟨hg15, h1⟩ := guardS h1
   refine gR (i := 23) 2 (Yl.indexArr (d := 49) (T := 101) (k := .i64) (j := x10) (g := b2) (o := 0) (by kernel_rfl) Go.Proofs.Tryz.underlying101 ty99 hg15.1 hg15.2) hI ?_
   refine gR (i := 24) 2 (jL (d := 50) (T := 99) (v := .int .u32 (gt a1 x10)) (by kernel_rfl) (ldB ty99 (l := cA (Value.int .u32) a1) (o := 0 + x10.toNat * 1) (v := .int .u32 (gt a1 x10)) (pick3 _ _ _ _) (arr_get _ _ hg15.1 (by have := And.intro hl_a1 hg15.2; omega)))) hI ?_
   obtain ⟨y17, hc16, h1⟩ := bindS h1
   try dsimp only at h1
   refine jO (i := 3) (by kernel_rfl) (jC (d := some 29) (n := 91) (vs := [.int .u32 (gt x11 4), iv 6]) (by kernel_rfl) en91 (c91 w0 w _ _ hI hT (gt x11 4) 6 _ hc16) ?_)
   rintro e w ⟨rfl, hI⟩
   refine ⟨_, rfl, ?_⟩
   refine ⟨fun _ _ => hI, ?_⟩
   obtain ⟨y19, hc18, h1⟩ := bindS h1
   try dsimp only at h1
   refine jO (i := 5) (by kernel_rfl) (jC (d := some 31) (n := 91) (vs := [.int .u32 (gt x11 4), iv 11]) (by kernel_rfl) en91 (c91 w0 w _ _ hI hT (gt x11 4) 11 _ hc18) ?_)
   rintro e w ⟨rfl, hI⟩
   refine ⟨_, rfl, ?_⟩
   refine ⟨fun _ _ => hI, ?_⟩
   refine gP 6 32 (.int .u32 (bXor .u32 y17 y19)) ?_
   obtain ⟨y21, hc20, h1⟩ := bindS h1
   try dsimp only at h1
   refine jO (i := 8) (by kernel_rfl) (jC (d := some 34) (n := 91) (vs := [.int .u32 (gt x11 4), iv 25]) (by kernel_rfl) en91 (c91 w0 w _ _ hI hT (gt x11 4) 25 _ hc20) ?_)
   rintro e w ⟨rfl, hI⟩
   refine ⟨_, rfl, ?_⟩
   refine ⟨fun _ _ => hI, ?_⟩
   refine gP 9 35 (.int .u32 (bXor .u32 (bXor .u32 y17 y19) y21)) ?_
   refine gP 10 36 (.int .u32 (wu32 ((gt x11 7) + (bXor .u32 (bXor .u32 y17 y19) y21)))) ?_
   refine gP 21 47 (.int .u32 (wu32 ((wu32 ((gt x11 7) + (bXor .u32 (bXor .u32 y17 y19) y21))) + (bXor .u32 (bAnd .u32 (gt x11 4) (gt x11 5)) (bAnd .u32 (bNot .u32 (gt x11 4)) (gt x11 6)))))) ?_
   refine gP 25 51 (.int .u32 (wu32 ((wu32 ((wu32 ((gt x11 7) + (bXor .u32 (bXor .u32 y17 y19) y21))) + (bXor .u32 (bAnd .u32 (gt x11 4) (gt x11 5)) (bAnd .u32 (bNot .u32 (gt x11 4)) (gt x11 6))))) + (gt a1 x10)))) ?_
   refine gP 27 53 (.int .u32 (wu32 ((wu32 ((wu32 ((wu32 ((gt x11 7) + (bXor .u32 (bXor .u32 y17 y19) y21))) + (bXor .u32 (bAnd .u32 (gt x11 4) (gt x11 5)) (bAnd .u32 (bNot .u32 (gt x11 4)) (gt x11 6))))) + (gt a1 x10))) + (gt y6 x10)))) ?_
   refine gP 28 12 (.int .u32 (wu32 ((wu32 ((wu32 ((wu32 ((gt x11 7) + (bXor .u32 (bXor .u32 y17 y19) y21))) + (bXor .u32 (bAnd .u32 (gt x11 4) (gt x11 5)) (bAnd .u32 (bNot .u32 (gt x11 4)) (gt x11 6))))) + (gt a1 x10))) + (gt y6 x10)))) ?_
   refine jD (by kernel_rfl) ?_
   refine qT (cQ ?_)
   refine CodT.drawI (n := 25) [] (by kernel_rfl) (by kernel_rfl) hI ?_
   intro w hI
   refine gP 0 54 (.int .u32 (gt x11 0)) ?_
   refine gP 2 56 (.int .u32 (gt x11 0)) ?_
   refine gP 5 59 (.int .u32 (gt x11 0)) ?_
   refine gP 8 62 (.int .u32 (gt x11 0)) ?_
   refine gP 9 63 (.pointer (some ⟨b4, 1, none⟩)) ?_
   refine gP 12 66 (.int .u32 (gt x11 0)) ?_
   refine gP 13 67 (.pointer (some ⟨b4, 2, none⟩)) ?_
   refine gP 17 71 (.pointer (some ⟨b4, 1, none⟩)) ?_
   refine gP 19 73 (.pointer (some ⟨b4, 2, none⟩)) ?_
   refine gR (i := 10) 2 (jL (d := 64) (T := 99) (v := .int .u32 (gt x11 1)) (by kernel_rfl) (ldB ty99 (l := cA (Value.int .u32) x11) (o := 1) (v := .int .u32 (gt x11 1)) (ent_refl _) (arr_getC _ _ 1 hl12 (by kernel_rfl)))) hI ?_
   refine gP 11 65 (.int .u32 (bAnd .u32 (gt x11 0) (gt x11 1))) ?_
   refine gR (i := 14) 2 (jL (d := 68) (T := 99) (v := .int .u32 (gt x11 2)) (by kernel_rfl) (ldB ty99 (l := cA (Value.int .u32) x11) (o := 2) (v := .int .u32 (gt x11 2)) (ent_refl _) (arr_getC _ _ 2 hl12 (by kernel_rfl)))) hI ?_
   refine gP 15 69 (.int .u32 (bAnd .u32 (gt x11 0) (gt x11 2))) ?_
   refine gP 16 70 (.int .u32 (bXor .u32 (bAnd .u32 (gt x11 0) (gt x11 1)) (bAnd .u32 (gt x11 0) (gt x11 2)))) ?_
   refine gR (i := 18) 2 (jL (d := 72) (T := 99) (v := .int .u32 (gt x11 1)) (by kernel_rfl) (ldB ty99 (l := cA (Value.int .u32) x11) (o := 1) (v := .int .u32 (gt x11 1)) (ent_refl _) (arr_getC _ _ 1 hl12 (by kernel_rfl)))) hI ?_
   refine gR (i := 20) 2 (jL (d := 74) (T := 99) (v := .int .u32 (gt x11 2)) (by kernel_rfl) (ldB ty99 (l := cA (Value.int .u32) x11) (o := 2) (v := .int .u32 (gt x11 2)) (ent_refl _) (arr_getC _ _ 2 hl12 (by kernel_rfl)))) hI ?_
   refine gP 21 75 (.int .u32 (bAnd .u32 (gt x11 1) (gt x11 2))) ?_
   refine gP 22 76 (.int .u32 (bXor .u32 (bXor .u32 (bAnd .u32 (gt x11 0) (gt x11 1)) (bAnd .u32 (gt x11 0) (gt x11 2))) (bAnd .u32 (gt x11 1) (gt x11 2)))) ?_
   obtain ⟨y23, hc22, h1⟩ := bindS h1
   try dsimp only at h1
   refine jO (i := 1) (by kernel_rfl) (jC (d := some 55) (n := 91) (vs := [.int .u32 (gt x11 0), iv 2]) (by kernel_rfl) en91 (c91 w0 w _ _ hI hT (gt x11 0) 2 _ hc22) ?_)
   rintro e w ⟨rfl, hI⟩
   refine ⟨_, rfl, ?_⟩
   refine ⟨fun _ _ => hI, ?_⟩
   obtain ⟨y25, hc24, h1⟩ := bindS h1
   try dsimp only at h1
   refine jO (i := 3) (by kernel_rfl) (jC (d := some 57) (n := 91) (vs := [.int .u32 (gt x11 0), iv 13]) (by kernel_rfl) en91 (c91 w0 w _ _ hI hT (gt x11 0) 13 _ hc24) ?_)
   rintro e w ⟨rfl, hI⟩
   refine ⟨_, rfl, ?_⟩
   refine ⟨fun _ _ => hI, ?_⟩
   refine gP 4 58 (.int .u32 (bXor .u32 y23 y25)) ?_
   obtain ⟨y27, hc26, h1⟩ := bindS h1
   try dsimp only at h1
   refine jO (i := 6) (by kernel_rfl) (jC (d := some 60) (n := 91) (vs := [.int .u32 (gt x11 0), iv 22]) (by kernel_rfl) en91 (c91 w0 w _ _ hI hT (gt x11 0) 22 _ hc26) ?_)
   rintro e w ⟨rfl, hI⟩
   refine ⟨_, rfl, ?_⟩
   refine ⟨fun _ _ => hI, ?_⟩
   refine gP 7 61 (.int .u32 (bXor .u32 (bXor .u32 y23 y25) y27)) ?_
   refine gP 23 77 (.int .u32 (wu32 ((bXor .u32 (bXor .u32 y23 y25) y27) + (bXor .u32 (bXor .u32 (bAnd .u32 (gt x11 0) (gt x11 1)) (bAnd .u32 (gt x11 0) (gt x11 2))) (bAnd .u32 (gt x11 1) (gt x11 2)))))) ?_
   refine gP 24 13 (.int .u32 (wu32 ((bXor .u32 (bXor .u32 y23 y25) y27) + (bXor .u32 (bXor .u32 (bAnd .u32 (gt x11 0) (gt x11 1)) (bAnd .u32 (gt x11 0) (gt x11 2))) (bAnd .u32 (gt x11 1) (gt x11 2)))))) ?_
   refine jD (by kernel_rfl) ?_
   refine qT (cQ ?_)
   refine CodT.drawI (n := 3) [2] (by kernel_rfl) (by kernel_rfl) hI ?_
   intro w hI
   refine gP 0 78 (.slice (some ⟨b4, 1, none⟩) 7 7) ?_
   refine gP 1 79 (.slice (some ⟨b4, 0, none⟩) 7 8) ?_
   refine jO (i := 2) (by kernel_rfl) (Does.copyArr (d := 80) (ty := 3) (dT := 138) (sT := 138) (e := (Value.int .u32)) (xs := x11) (b := b4) (o1 := 1) (m1 := 7) (c1 := 7) (o2 := 0) (m2 := 7) (c2 := 8) (n := 7) (m := 8) (by kernel_rfl) Go.Proofs.Tryz.underlying138 ty99 hl12 (by kernel_rfl) (by kernel_rfl) (by kernel_rfl) (fun _ => rfl) hI ?_)
   intro w hI
   refine ⟨fun h => absurd h (by decide), ?_⟩
   refine jD (by kernel_rfl) ?_
   refine qT (cQ (cR [0, 1, 2, 3, 4] ?_))
   refine oP (r := [4]) [0, 1, 2, 3] (S' := [(3, pb b1), (4, pb b2), (6, pb b3), (7, pb b4), (12, .int .u32 (wu32 ((wu32 ((wu32 ((wu32 ((gt x11 7) + (bXor .u32 (bXor .u32 y17 y19) y21))) + (bXor .u32 (bAnd .u32 (gt x11 4) (gt x11 5)) (bAnd .u32 (bNot .u32 (gt x11 4)) (gt x11 6))))) + (gt a1 x10))) + (gt y6 x10)))), (17, .agg (cA (Value.int .u32) y6).toArray), (18, iv x10), (83, .int .u32 (wu32 ((wu32 ((wu32 ((wu32 ((wu32 ((gt x11 7) + (bXor .u32 (bXor .u32 y17 y19) y21))) + (bXor .u32 (bAnd .u32 (gt x11 4) (gt x11 5)) (bAnd .u32 (bNot .u32 (gt x11 4)) (gt x11 6))))) + (gt a1 x10))) + (gt y6 x10))) + (wu32 ((bXor .u32 (bXor .u32 y23 y25) y27) + (bXor .u32 (bXor .u32 (bAnd .u32 (gt x11 0) (gt x11 1)) (bAnd .u32 (gt x11 0) (gt x11 2))) (bAnd .u32 (gt x11 1) (gt x11 2)))))))), (84, pb b4)]) ?_
   refine oC (Does.storeArrC (e := (Value.int .u32)) (xs := cpy x11 1 0 7) (u := wu32 ((wu32 ((wu32 ((wu32 ((wu32 ((gt x11 7) + (bXor .u32 (bXor .u32 y17 y19) y21))) + (bXor .u32 (bAnd .u32 (gt x11 4) (gt x11 5)) (bAnd .u32 (bNot .u32 (gt x11 4)) (gt x11 6))))) + (gt a1 x10))) + (gt y6 x10))) + (wu32 ((bXor .u32 (bXor .u32 y23 y25) y27) + (bXor .u32 (bXor .u32 (bAnd .u32 (gt x11 0) (gt x11 1)) (bAnd .u32 (gt x11 0) (gt x11 2))) (bAnd .u32 (gt x11 1) (gt x11 2))))))) (T := 99) (b := b4) (n := 0) (by kernel_rfl) ty99 hI (by kernel_rfl) (by kernel_rfl) (cpy_length _ _ _ _ _ hl12 (by kernel_rfl) (by kernel_rfl)) (by kernel_rfl) ?_)
   intro w hI
   refine oD (qT (cR [0, 1, 2, 3, 4, 5] ?_))
   refine oP (r := [1, 2, 3, 4, 5]) [0] (S' := [(3, pb b1), (4, pb b2), (6, pb b3), (7, pb b4), (12, .int .u32 (wu32 ((wu32 ((wu32 ((wu32 ((gt x11 7) + (bXor .u32 (bXor .u32 y17 y19) y21))) + (bXor .u32 (bAnd .u32 (gt x11 4) (gt x11 5)) (bAnd .u32 (bNot .u32 (gt x11 4)) (gt x11 6))))) + (gt a1 x10))) + (gt y6 x10)))), (17, .agg (cA (Value.int .u32) y6).toArray), (18, iv x10), (85, .pointer (some ⟨b4, 4, none⟩))]) ?_
   refine oC (jY (jL (d := 86) (T := 99) (v := .int .u32 (gt (st (cpy x11 1 0 7) 0 (wu32 ((wu32 ((wu32 ((wu32 ((wu32 ((gt x11 7) + (bXor .u32 (bXor .u32 y17 y19) y21))) + (bXor .u32 (bAnd .u32 (gt x11 4) (gt x11 5)) (bAnd .u32 (bNot .u32 (gt x11 4)) (gt x11 6))))) + (gt a1 x10))) + (gt y6 x10))) + (wu32 ((bXor .u32 (bXor .u32 y23 y25) y27) + (bXor .u32 (bXor .u32 (bAnd .u32 (gt x11 0) (gt x11 1)) (bAnd .u32 (gt x11 0) (gt x11 2))) (bAnd .u32 (gt x11 1) (gt x11 2)))))))) 4)) (by kernel_rfl) (ldB ty99 (l := cA (Value.int .u32) (st (cpy x11 1 0 7) 0 (wu32 ((wu32 ((wu32 ((wu32 ((wu32 ((gt x11 7) + (bXor .u32 (bXor .u32 y17 y19) y21))) + (bXor .u32 (bAnd .u32 (gt x11 4) (gt x11 5)) (bAnd .u32 (bNot .u32 (gt x11 4)) (gt x11 6))))) + (gt a1 x10))) + (gt y6 x10))) + (wu32 ((bXor .u32 (bXor .u32 y23 y25) y27) + (bXor .u32 (bXor .u32 (bAnd .u32 (gt x11 0) (gt x11 1)) (bAnd .u32 (gt x11 0) (gt x11 2))) (bAnd .u32 (gt x11 1) (gt x11 2))))))))) (o := 4) (v := .int .u32 (gt (st (cpy x11 1 0 7) 0 (wu32 ((wu32 ((wu32 ((wu32 ((wu32 ((gt x11 7) + (bXor .u32 (bXor .u32 y17 y19) y21))) + (bXor .u32 (bAnd .u32 (gt x11 4) (gt x11 5)) (bAnd .u32 (bNot .u32 (gt x11 4)) (gt x11 6))))) + (gt a1 x10))) + (gt y6 x10))) + (wu32 ((bXor .u32 (bXor .u32 y23 y25) y27) + (bXor .u32 (bXor .u32 (bAnd .u32 (gt x11 0) (gt x11 1)) (bAnd .u32 (gt x11 0) (gt x11 2))) (bAnd .u32 (gt x11 1) (gt x11 2)))))))) 4)) (ent_refl _) (arr_getC _ _ 4 ((st_length _ _ _).trans (cpy_length _ _ _ _ _ hl12 (by kernel_rfl) (by kernel_rfl))) (by kernel_rfl)))) hI ?_)
   refine oP (r := [5]) [2, 3, 4] (S' := [(3, pb b1), (4, pb b2), (6, pb b3), (7, pb b4), (17, .agg (cA (Value.int .u32) y6).toArray), (18, iv x10), (88, .int .u32 (wu32 ((gt (st (cpy x11 1 0 7) 0 (wu32 ((wu32 ((wu32 ((wu32 ((wu32 ((gt x11 7) + (bXor .u32 (bXor .u32 y17 y19) y21))) + (bXor .u32 (bAnd .u32 (gt x11 4) (gt x11 5)) (bAnd .u32 (bNot .u32 (gt x11 4)) (gt x11 6))))) + (gt a1 x10))) + (gt y6 x10))) + (wu32 ((bXor .u32 (bXor .u32 y23 y25) y27) + (bXor .u32 (bXor .u32 (bAnd .u32 (gt x11 0) (gt x11 1)) (bAnd .u32 (gt x11 0) (gt x11 2))) (bAnd .u32 (gt x11 1) (gt x11 2)))))))) 4) + (wu32 ((wu32 ((wu32 ((wu32 ((gt x11 7) + (bXor .u32 (bXor .u32 y17 y19) y21))) + (bXor .u32 (bAnd .u32 (gt x11 4) (gt x11 5)) (bAnd .u32 (bNot .u32 (gt x11 4)) (gt x11 6))))) + (gt a1 x10))) + (gt y6 x10)))))), (89, .pointer (some ⟨b4, 4, none⟩))]) ?_
   refine oC (Does.storeArrC (e := (Value.int .u32)) (xs := st (cpy x11 1 0 7) 0 (wu32 ((wu32 ((wu32 ((wu32 ((wu32 ((gt x11 7) + (bXor .u32 (bXor .u32 y17 y19) y21))) + (bXor .u32 (bAnd .u32 (gt x11 4) (gt x11 5)) (bAnd .u32 (bNot .u32 (gt x11 4)) (gt x11 6))))) + (gt a1 x10))) + (gt y6 x10))) + (wu32 ((bXor .u32 (bXor .u32 y23 y25) y27) + (bXor .u32 (bXor .u32 (bAnd .u32 (gt x11 0) (gt x11 1)) (bAnd .u32 (gt x11 0) (gt x11 2))) (bAnd .u32 (gt x11 1) (gt x11 2)))))))) (u := wu32 ((gt (st (cpy x11 1 0 7) 0 (wu32 ((wu32 ((wu32 ((wu32 ((wu32 ((gt x11 7) + (bXor .u32 (bXor .u32 y17 y19) y21))) + (bXor .u32 (bAnd .u32 (gt x11 4) (gt x11 5)) (bAnd .u32 (bNot .u32 (gt x11 4)) (gt x11 6))))) + (gt a1 x10))) + (gt y6 x10))) + (wu32 ((bXor .u32 (bXor .u32 y23 y25) y27) + (bXor .u32 (bXor .u32 (bAnd .u32 (gt x11 0) (gt x11 1)) (bAnd .u32 (gt x11 0) (gt x11 2))) (bAnd .u32 (gt x11 1) (gt x11 2)))))))) 4) + (wu32 ((wu32 ((wu32 ((wu32 ((gt x11 7) + (bXor .u32 (bXor .u32 y17 y19) y21))) + (bXor .u32 (bAnd .u32 (gt x11 4) (gt x11 5)) (bAnd .u32 (bNot .u32 (gt x11 4)) (gt x11 6))))) + (gt a1 x10))) + (gt y6 x10))))) (T := 99) (b := b4) (n := 4) (by kernel_rfl) ty99 hI (by kernel_rfl) (by kernel_rfl) ((st_length _ _ _).trans (cpy_length _ _ _ _ _ hl12 (by kernel_rfl) (by kernel_rfl))) (by kernel_rfl) ?_)
   intro w hI
   refine oD (jN (qT (cR [0, 1] ?_)))
   refine oP (r := []) [0, 1] (S' := [(3, pb b1), (4, pb b2), (6, pb b3), (7, pb b4), (17, .agg (cA (Value.int .u32) y6).toArray), (18, iv (wi64 (x10 + 1)))]) ?_
   refine oD ?_
   exact jT fun a ha => ⟨k, Nat.lt_succ_self k, wi64 (x10 + 1), st (st (cpy x11 1 0 7) 0 (wu32 ((wu32 ((wu32 ((wu32 ((wu32 ((gt x11 7) + (bXor .u32 (bXor .u32 y17 y19) y21))) + (bXor .u32 (bAnd .u32 (gt x11 4) (gt x11 5)) (bAnd .u32 (bNot .u32 (gt x11 4)) (gt x11 6))))) + (gt a1 x10))) + (gt y6 x10))) + (wu32 ((bXor .u32 (bXor .u32 y23 y25) y27) + (bXor .u32 (bXor .u32 (bAnd .u32 (gt x11 0) (gt x11 1)) (bAnd .u32 (gt x11 0) (gt x11 2))) (bAnd .u32 (gt x11 1) (gt x11 2)))))))) 4 (wu32 ((gt (st (cpy x11 1 0 7) 0 (wu32 ((wu32 ((wu32 ((wu32 ((wu32 ((gt x11 7) + (bXor .u32 (bXor .u32 y17 y19) y21))) + (bXor .u32 (bAnd .u32 (gt x11 4) (gt x11 5)) (bAnd .u32 (bNot .u32 (gt x11 4)) (gt x11 6))))) + (gt a1 x10))) + (gt y6 x10))) + (wu32 ((bXor .u32 (bXor .u32 y23 y25) y27) + (bXor .u32 (bXor .u32 (bAnd .u32 (gt x11 0) (gt x11 1)) (bAnd .u32 (gt x11 0) (gt x11 2))) (bAnd .u32 (gt x11 1) (gt x11 2)))))))) 4) + (wu32 ((wu32 ((wu32 ((wu32 ((gt x11 7) + (bXor .u32 (bXor .u32 y17 y19) y21))) + (bXor .u32 (bAnd .u32 (gt x11 4) (gt x11 5)) (bAnd .u32 (bNot .u32 (gt x11 4)) (gt x11 6))))) + (gt a1 x10))) + (gt y6 x10))))), h1, ha.keep [3, 4, 6, 7, 17, 18] (by kernel_rfl), hI, ((st_length _ _ _).trans ((st_length _ _ _).trans (cpy_length _ _ _ _ _ hl12 (by kernel_rfl) (by kernel_rfl))))⟩
  ·
   rw [if_neg hb13] at h1
   refine cN (b := decide (x10 < 64)) (by simpa using hb13) ?_
   refine jZ ?_
   refine jX (jX ?_)
   refine Qn.block ?_
   have hI := hI.mono (pick3 _ _ _ _)
   have hI := hI.drop
   have e := someS h1
   subst e
   exact jT fun a ha => ⟨x11, rfl, ha.keep [3, 6, 7] (by kernel_rfl), hI, hl12⟩
 ·
  rintro a w ⟨x8, rfl, ha, hI, hl9⟩
  try dsimp only at h0
  refine Qn.of ?_ ha
  refine qT (cQ (cQ (cR [0] ?_)))
  refine oP (r := []) [0] (S' := [(3, pb b1), (6, pb b3), (7, pb b4), (91, iv 0)]) ?_
  refine oD (qT ?_)
  obtain ⟨r1, h1, h0⟩ := bindS h0
  refine CodT.meet1 (fun a w => ∃ (x28 : (List Int)), x28 = r1 ∧ Fr 104 [(3, pb b1), (6, pb b3)] a ∧ Inv w0 Z w (star (pt b3 (.cells (cA (Value.int .u32) (List.replicate 8 (0 : Int))).toArray 100 (0, 0))) (star (pt b1 (.cells (cA (Value.int .u32) x28).toArray 100 (0, 0))) A)) ∧ x28.length = 8) ?_ ?_
  ·
   refine jB ?_
   refine (fun a ha => wp_loopN (fun k a w => ∃ (x30 : Int) (x31 : (List Int)), sha_mix.l1 x8 k x30 x31 = some r1 ∧ Fr 104 [(3, pb b1), (6, pb b3), (7, pb b4), (91, iv x30)] a ∧ Inv w0 Z w (star (pt b4 (.cells (cA (Value.int .u32) x8).toArray 100 (0, 0))) (star (pt b3 (.cells (cA (Value.int .u32) (List.replicate 8 (0 : Int))).toArray 100 (0, 0))) (star (pt b1 (.cells (cA (Value.int .u32) x31).toArray 100 (0, 0))) A))) ∧ x31.length = 8) ?_ FU a w ⟨0, a0, h1, ha.keep [3, 6, 7, 91] (by kernel_rfl), hI, hl_a0⟩)
   clear h1 hI
   rintro k a w ⟨x30, x31, h1, ha, hI, hl32⟩
   rcases k with _ | k
   ·
    cases h1
   simp only [sha_mix.l1] at h1
   refine CodT.of ?_ ha
   refine cQ (cR [0] ?_)
   refine oP (r := []) [0] (S' := [(3, pb b1), (6, pb b3), (7, pb b4), (91, iv x30), (92, .bool (decide (x30 < 8)))]) ?_
   refine oD (qT (cQ ?_))
   by_cases hb33 : (decide (x30 < 8)) = true
   ·
    rw [if_pos hb33] at h1
    refine cY (b := decide (x30 < 8)) hb33 ?_
    refine jS (qT (cQ (jB (cQ (cR [0, 1] ?_)))))
    refine oP (r := []) [0, 1] (S' := [(3, pb b1), (6, pb b3), (7, pb b4), (14, iv x30), (91, iv x30)]) ?_
    refine oD (qT ?_)
    refine CodT.drawI (n := 9) [8] (by kernel_rfl) (by kernel_rfl) hI ?_
    intro w hI
    refine gP 0 94 (iv x30) ?_
    refine gP 3 97 (iv x30) ?_
    obtain ⟨hg34, h1⟩ := guardS h1
    refine gR (i := 1) 2 (Yl.indexArr (d := 95) (T := 100) (k := .i64) (j := x30) (g := b1) (o := 0) (by kernel_rfl) Go.Proofs.Tryz.underlying100 ty99 hg34.1 hg34.2) hI ?_
    refine gR (i := 2) 2 (jL (d := 96) (T := 99) (v := .int .u32 (gt x31 x30)) (by kernel_rfl) (ldB ty99 (l := cA (Value.int .u32) x31) (o := 0 + x30.toNat * 1) (v := .int .u32 (gt x31 x30)) (pick3 _ _ _ _) (arr_get _ _ hg34.1 (by have := And.intro hl32 hg34.2; omega)))) hI ?_
    obtain ⟨hg35, h1⟩ := guardS h1
    refine gR (i := 4) 2 (Yl.indexArr (d := 98) (T := 100) (k := .i64) (j := x30) (g := b4) (o := 0) (by kernel_rfl) Go.Proofs.Tryz.underlying100 ty99 hg35.1 hg35.2) hI ?_
    refine gR (i := 5) 2 (jL (d := 99) (T := 99) (v := .int .u32 (gt x8 x30)) (by kernel_rfl) (ldB ty99 (l := cA (Value.int .u32) x8) (o := 0 + x30.toNat * 1) (v := .int .u32 (gt x8 x30)) (ent_refl _) (arr_get _ _ hg35.1 (by have := And.intro hl9 hg35.2; omega)))) hI ?_
    refine gP 6 100 (.int .u32 (wu32 ((gt x31 x30) + (gt x8 x30)))) ?_
    obtain ⟨hg36, h1⟩ := guardS h1
    refine gR (i := 7) 2 (Yl.indexArr (d := 101) (T := 100) (k := .i64) (j := x30) (g := b1) (o := 0) (by kernel_rfl) Go.Proofs.Tryz.underlying100 ty99 hg36.1 hg36.2) hI ?_
    have hI := hI.mono (pick3 _ _ _ _)
    refine jO (i := 8) (by kernel_rfl) (Does.storeArr (e := (Value.int .u32)) (xs := x31) (u := wu32 ((gt x31 x30) + (gt x8 x30))) (T := 99) (b := b1) (j := x30) (by kernel_rfl) ty99 hI (by kernel_rfl) (by kernel_rfl) hg36.1 (by have := And.intro hl32 hg36.2; omega) ?_)
    intro w hI
    refine ⟨fun h => absurd h (by decide), ?_⟩
    refine jD (by kernel_rfl) ?_
    refine jN (qT (cR [0, 1] ?_))
    refine oP (r := []) [0, 1] (S' := [(3, pb b1), (6, pb b3), (7, pb b4), (91, iv (wi64 (x30 + 1)))]) ?_
    refine oD ?_
    have hI := hI.mono (pick3 _ _ _ _)
    have hI := hI.mono (pick3 _ _ _ _)
    exact jT fun a ha => ⟨k, Nat.lt_succ_self k, wi64 (x30 + 1), st x31 x30 (wu32 ((gt x31 x30) + (gt x8 x30))), h1, ha.keep [3, 6, 7, 91] (by kernel_rfl), hI, ((st_length _ _ _).trans hl32)⟩
   ·
    rw [if_neg hb33] at h1
    refine cN (b := decide (x30 < 8)) (by simpa using hb33) ?_
    refine jZ ?_
    refine jX (jX ?_)
    refine Qn.block ?_
    have hI := hI.drop
    have e := someS h1
    subst e
    exact jT fun a ha => ⟨x31, rfl, ha.keep [3, 6] (by kernel_rfl), hI, hl32⟩
  ·
   rintro a w ⟨x28, rfl, ha, hI, hl29⟩
   try dsimp only at h0
   refine Qn.of ?_ ha
   refine qT (cQ (cR [0, 1] ?_))
   refine oC (jY (jL (d := 103) (T := 100) (v := .agg (cA (Value.int .u32) x28).toArray) (by kernel_rfl) (ldBN ty100 (l := cA (Value.int .u32) x28) (o := 0) (cs := cA (Value.int .u32) x28) (pick2 _ _ _) ((cA_length _ _).trans hl29) (whole _ _ ((cA_length _ _).trans hl29)))) hI ?_)
   refine oC (jV (T := 100) (b := b3) (n := 8) (xs := (List.replicate 8 (0 : Int))) (ys := x28) (by kernel_rfl) ty100 hI (fun _ => rfl) (by kernel_rfl) hl29 ?_)
   intro w hI
   refine oD (qT (jE ?_))
   have hL37 := (ldBN ty100 (l := cA (Value.int .u32) x28) (o := 0) (cs := cA (Value.int .u32) x28) (ent_refl _) ((cA_length _ _).trans hl29) (whole _ _ ((cA_length _ _).trans hl29))) w hI
   have hI := hI.drop
   have hI := hI.drop
   have e := someS h0
   subst e
   refine qK [6] (S' := [(6, pb b3)]) ?_
   exact post_ret (v := .agg (cA (Value.int .u32) x28).toArray) (fun a ha => jU (vs := [.agg (cA (Value.int .u32) x28).toArray]) (.cell (t := 6) (T := 100) (ad := ⟨b3, 0, none⟩) (by kernel_rfl) hL37 .nil) ha (by kernel_rfl)) ⟨rfl, hl29, hI⟩
/-- cenotaph/sha.Of -/
theorem c49 (w0 w : World) (Z : Hp) (A : HP) (hI : Inv w0 Z w A) (hT : Tabs Z) (a0 : ByteArray) (r : (List Int)) (h0 : sha_Of a0 = some r) :
  Calls prog 49 #[.string a0] w (fun e w' => e = .returned (.agg (q8c r).toArray) ∧ r.length = 32 ∧ Inv w0 Z w' A) := by
 have e4 := calls_intro (R := (fun e w' => e = .returned (.agg (q8c r).toArray) ∧ r.length = 32 ∧ Inv w0 Z w' A)) (w := w) (args := [.string a0]) (fn := Go.Proofs.Tryz.f49) 41 Go.Proofs.Tryz.func49 (by rfl) Go.Proofs.Tryz.ntmps49 (by kernel_rfl)
 refine e4 ?_
 clear e4
 unfold sha_Of at h0
 refine cQ (cR [0] ?_)
 refine oC (jA (d := 2) (T := 23) (q8c q8z) (by kernel_rfl) ty23 hI (by kernel_rfl) ?_)
 intro b1 w hI
 refine oD (qT (cQ (cR [0, 1, 2, 3, 4, 5, 6, 7] ?_)))
 obtain ⟨⟨y3, y5⟩, hc2, h0⟩ := bindS h0
 try dsimp only at h0
 refine oC (jC (d := some 9) (n := 68) (vs := []) (by kernel_rfl) en68 (c68 w0 w _ _ hI hT _ hc2) ?_)
 rintro e w ⟨rfl, hl4, hl6, hI⟩
 refine ⟨_, rfl, ?_⟩
 refine oP (r := [4, 5, 6, 7]) [1, 2, 3] (S' := [(0, .string a0), (2, pb b1), (10, .agg (cA (Value.int .u32) y3).toArray), (11, .agg (cA (Value.int .u32) y5).toArray)]) ?_
 refine oC (jA (d := 3) (T := 100) (cA (Value.int .u32) (List.replicate 8 (0 : Int))) (by kernel_rfl) ty100 hI (by kernel_rfl) ?_)
 intro b7 w hI
 refine oC (jA (d := 4) (T := 101) (cA (Value.int .u32) (List.replicate 64 (0 : Int))) (by kernel_rfl) ty101 hI (by kernel_rfl) ?_)
 intro b8 w hI
 have hI := hI.mono (pick2 _ _ _)
 refine oC (jV (T := 100) (b := b7) (n := 8) (xs := (List.replicate 8 (0 : Int))) (ys := y3) (by kernel_rfl) ty100 hI (fun _ => rfl) (by kernel_rfl) hl4 ?_)
 intro w hI
 have hI := hI.mono (pick2 _ _ _)
 refine oC (jV (T := 101) (b := b8) (n := 64) (xs := (List.replicate 64 (0 : Int))) (ys := y5) (by kernel_rfl) ty101 hI (fun _ => rfl) (by kernel_rfl) hl6 ?_)
 intro w hI
 refine oD (qT (cQ (cQ (cR [0, 1, 2] ?_))))
 refine oP (r := [1, 2]) [0] (S' := [(2, pb b1), (3, pb b7), (4, pb b8), (12, .string a0)]) ?_
 obtain ⟨y10, hc9, h0⟩ := bindS h0
 try dsimp only at h0
 refine oC (jC (d := some 13) (n := 69) (vs := [.string a0]) (by kernel_rfl) en69 (c69 w0 w _ _ hI hT a0 _ hc9) ?_)
 rintro e w ⟨rfl, hI⟩
 refine ⟨_, rfl, ?_⟩
 refine oP (r := []) [2] (S' := [(2, pb b1), (3, pb b7), (4, pb b8), (5, .string y10)]) ?_
 refine oD (qT ?_)
 obtain ⟨r1, h1, h0⟩ := bindS h0
 refine CodT.meet1 (fun a w => ∃ (x11 : (List Int)), x11 = r1 ∧ Fr 41 [(2, pb b1), (3, pb b7)] a ∧ Inv w0 Z w (star (pt b7 (.cells (cA (Value.int .u32) x11).toArray 100 (0, 0))) (star (pt b1 (.cells (q8c q8z).toArray 23 (0, 0))) A)) ∧ x11.length = 8) ?_ ?_
 ·
  refine jB ?_
  refine (fun a ha => wp_loopN (fun k a w => ∃ (x13 : ByteArray) (x14 : (List Int)), sha_Of.l0 y5 k x13 x14 = some r1 ∧ Fr 41 [(2, pb b1), (3, pb b7), (4, pb b8), (5, .string x13)] a ∧ Inv w0 Z w (star (pt b8 (.cells (cA (Value.int .u32) y5).toArray 101 (0, 0))) (star (pt b7 (.cells (cA (Value.int .u32) x14).toArray 100 (0, 0))) (star (pt b1 (.cells (q8c q8z).toArray 23 (0, 0))) A))) ∧ x14.length = 8) ?_ FU a w ⟨y10, y3, h1, ha.keep [2, 3, 4, 5] (by kernel_rfl), hI, hl4⟩)
  clear h1 hI
  rintro k a w ⟨x13, x14, h1, ha, hI, hl15⟩
  rcases k with _ | k
  ·
   cases h1
  simp only [sha_Of.l0] at h1
  refine CodT.of ?_ ha
  refine cQ (cQ (cR [0, 1, 2] ?_))
  refine oP (r := []) [0, 1, 2] (S' := [(2, pb b1), (3, pb b7), (4, pb b8), (5, .string x13), (16, .bool (decide ((x13.size : Int) > 0)))]) ?_
  refine oD (qT ?_)
  by_cases hb16 : (decide ((x13.size : Int) > 0)) = true
  ·
   rw [if_pos hb16] at h1
   refine cY (b := decide ((x13.size : Int) > 0)) hb16 ?_
   refine jS (qT (cQ (jB ?_)))
   refine CodT.drawI (n := 6) [5] (by kernel_rfl) (by kernel_rfl) hI ?_
   intro w hI
   refine gP 2 21 (.string x13) ?_
   refine gR (i := 0) 2 (jL (d := 19) (T := 100) (v := .agg (cA (Value.int .u32) x14).toArray) (by kernel_rfl) (ldBN ty100 (l := cA (Value.int .u32) x14) (o := 0) (cs := cA (Value.int .u32) x14) (pick2 _ _ _) ((cA_length _ _).trans hl15) (whole _ _ ((cA_length _ _).trans hl15)))) hI ?_
   refine gR (i := 1) 2 (jL (d := 20) (T := 101) (v := .agg (cA (Value.int .u32) y5).toArray) (by kernel_rfl) (ldBN ty101 (l := cA (Value.int .u32) y5) (o := 0) (cs := cA (Value.int .u32) y5) (ent_refl _) ((cA_length _ _).trans hl6) (whole _ _ ((cA_length _ _).trans hl6)))) hI ?_
   obtain ⟨hg17, h1⟩ := guardS h1
   refine gR (i := 3) 2 (Yl.sliceStr01 (d := 22) (T := 9) (s := x13) (hi := 64) (by kernel_rfl) Go.Proofs.Tryz.underlying9 hg17) hI ?_
   obtain ⟨y19, hc18, h1⟩ := bindS h1
   try dsimp only at h1
   refine jO (i := 4) (by kernel_rfl) (jC (d := some 23) (n := 70) (vs := [.agg (cA (Value.int .u32) x14).toArray, .agg (cA (Value.int .u32) y5).toArray, .string (sx x13 0 64)]) (by kernel_rfl) en70 (c70 w0 w _ _ hI hT x14 hl15 y5 hl6 (sx x13 0 64) _ hc18) ?_)
   rintro e w ⟨rfl, hl20, hI⟩
   refine ⟨_, rfl, ?_⟩
   refine ⟨fun _ _ => hI, ?_⟩
   have hI := hI.mono (pick2 _ _ _)
   refine jO (i := 5) (by kernel_rfl) (jV (T := 100) (b := b7) (n := 8) (xs := x14) (ys := y19) (by kernel_rfl) ty100 hI (fun _ => rfl) hl15 hl20 ?_)
   intro w hI
   refine ⟨fun h => absurd h (by decide), ?_⟩
   refine jD (by kernel_rfl) ?_
   refine jN (qT (cR [0, 1, 2] ?_))
   refine oP (r := [1, 2]) [0] (S' := [(2, pb b1), (3, pb b7), (4, pb b8), (17, .string x13)]) ?_
   obtain ⟨hg21, h1⟩ := guardS h1
   refine oC (jY (Yl.sliceStr10 (d := 18) (T := 9) (s := x13) (lo := 64) (by kernel_rfl) Go.Proofs.Tryz.underlying9 hg21) hI ?_)
   refine oP (r := []) [2] (S' := [(2, pb b1), (3, pb b7), (4, pb b8), (5, .string (sx x13 64 (x13.size : Int)))]) ?_
   refine oD ?_
   have hI := hI.mono (pick3 _ _ _ _)
   have hI := hI.mono (pick2 _ _ _)
   have hI := hI.mono (pick3 _ _ _ _)
   exact jT fun a ha => ⟨k, Nat.lt_succ_self k, sx x13 64 (x13.size : Int), y19, h1, ha.keep [2, 3, 4, 5] (by kernel_rfl), hI, hl20⟩
  ·
   rw [if_neg hb16] at h1
   refine cN (b := decide ((x13.size : Int) > 0)) (by simpa using hb16) ?_
   refine jZ ?_
   refine jX (jX ?_)
   refine Qn.block ?_
   have hI := hI.drop
   have e := someS h1
   subst e
   exact jT fun a ha => ⟨x14, rfl, ha.keep [2, 3] (by kernel_rfl), hI, hl15⟩
 ·
  rintro a w ⟨x11, rfl, ha, hI, hl12⟩
  try dsimp only at h0
  refine Qn.of ?_ ha
  refine qT (cQ (cR [0] ?_))
  refine oC (jA (d := 6) (T := 23) (q8c q8z) (by kernel_rfl) ty23 hI (by kernel_rfl) ?_)
  intro b22 w hI
  refine oD (qT (cQ (cQ (cR [0] ?_))))
  refine oP (r := []) [0] (S' := [(2, pb b1), (3, pb b7), (6, pb b22), (24, iv 0)]) ?_
  refine oD (qT ?_)
  obtain ⟨r1, h1, h0⟩ := bindS h0
  refine CodT.meet1 (fun a w => ∃ (x23 : (List Int)), x23 = r1 ∧ Fr 41 [(2, pb b1), (6, pb b22)] a ∧ Inv w0 Z w (star (pt b22 (.cells (q8c x23).toArray 23 (0, 0))) (star (pt b1 (.cells (q8c q8z).toArray 23 (0, 0))) A)) ∧ x23.length = 32) ?_ ?_
  ·
   refine jB ?_
   refine (fun a ha => wp_loopN (fun k a w => ∃ (x25 : Int) (x26 : (List Int)), sha_Of.l1 x11 k x25 x26 = some r1 ∧ Fr 41 [(2, pb b1), (3, pb b7), (6, pb b22), (24, iv x25)] a ∧ Inv w0 Z w (star (pt b22 (.cells (q8c x26).toArray 23 (0, 0))) (star (pt b7 (.cells (cA (Value.int .u32) x11).toArray 100 (0, 0))) (star (pt b1 (.cells (q8c q8z).toArray 23 (0, 0))) A))) ∧ x26.length = 32) ?_ FU a w ⟨0, q8z, h1, ha.keep [2, 3, 6, 24] (by kernel_rfl), hI, (by kernel_rfl)⟩)
   clear h1 hI
   rintro k a w ⟨x25, x26, h1, ha, hI, hl27⟩
   rcases k with _ | k
   ·
    cases h1
   simp only [sha_Of.l1] at h1
   refine CodT.of ?_ ha
   refine cQ (cR [0] ?_)
   refine oP (r := []) [0] (S' := [(2, pb b1), (3, pb b7), (6, pb b22), (24, iv x25), (25, .bool (decide (x25 < 32)))]) ?_
   refine oD (qT (cQ ?_))
   by_cases hb28 : (decide (x25 < 32)) = true
   ·
    rw [if_pos hb28] at h1
    refine cY (b := decide (x25 < 32)) hb28 ?_
    refine jS (qT (cQ (jB (cQ (cR [0, 1] ?_)))))
    refine oP (r := []) [0, 1] (S' := [(2, pb b1), (3, pb b7), (6, pb b22), (7, iv x25), (24, iv x25)]) ?_
    refine oD (qT (cR [0, 1, 2, 3, 4, 5, 6, 7, 8, 9, 10, 11, 12] ?_))
    refine oP (r := [3, 4, 5, 6, 7, 8, 9, 10, 11, 12]) [0, 1, 2] (S' := [(2, pb b1), (3, pb b7), (6, pb b22), (7, iv x25), (24, iv x25), (27, iv x25), (29, iv (wi64 (x25.tdiv 4)))]) ?_
    obtain ⟨hg29, h1⟩ := guardS h1
    refine oC (jY (Yl.indexArr (d := 30) (T := 100) (k := .i64) (j := wi64 (x25.tdiv 4)) (g := b7) (o := 0) (by kernel_rfl) Go.Proofs.Tryz.underlying100 ty99 hg29.1 hg29.2) hI ?_)
    refine oC (jY (jL (d := 31) (T := 99) (v := .int .u32 (gt x11 (wi64 (x25.tdiv 4)))) (by kernel_rfl) (ldB ty99 (l := cA (Value.int .u32) x11) (o := 0 + (wi64 (x25.tdiv 4)).toNat * 1) (v := .int .u32 (gt x11 (wi64 (x25.tdiv 4)))) (pick2 _ _ _) (arr_get _ _ hg29.1 (by have := And.intro hl12 hg29.2; omega)))) hI ?_)
    refine oP (r := [9, 10, 11, 12]) [5, 6, 7, 8] (S' := [(2, pb b1), (3, pb b7), (6, pb b22), (24, iv x25), (27, iv x25), (31, .int .u32 (gt x11 (wi64 (x25.tdiv 4)))), (35, iv (wi64 (24 - (wi64 (8 * (x25.tmod 4))))))]) ?_
    obtain ⟨hg30, h1⟩ := guardS h1
    refine oC (jY (Yl.shr (d := 36) (T := 99) (k := .u32) (k' := .i64) (x := gt x11 (wi64 (x25.tdiv 4))) (y := wi64 (24 - (wi64 (8 * (x25.tmod 4))))) (by kernel_rfl) hg30) hI ?_)
    refine oP (r := [11, 12]) [10] (S' := [(2, pb b1), (3, pb b7), (6, pb b22), (24, iv x25), (27, iv x25), (37, .int .u8 (wu8 (bShr .u32 (gt x11 (wi64 (x25.tdiv 4))) (wi64 (24 - (wi64 (8 * (x25.tmod 4))))))))]) ?_
    obtain ⟨hg31, h1⟩ := guardS h1
    refine oC (jY (Yl.indexArr (d := 38) (T := 23) (k := .i64) (j := x25) (g := b22) (o := 0) (by kernel_rfl) Go.Proofs.Tryz.underlying23 ty5 hg31.1 hg31.2) hI ?_)
    refine oC (Does.storeArr (e := (Value.int .u8)) (xs := x26) (u := wu8 (bShr .u32 (gt x11 (wi64 (x25.tdiv 4))) (wi64 (24 - (wi64 (8 * (x25.tmod 4))))))) (T := 5) (b := b22) (j := x25) (by kernel_rfl) ty5 hI (by kernel_rfl) (by kernel_rfl) hg31.1 (by have := And.intro hl27 hg31.2; omega) ?_)
    intro w hI
    refine oD (jN (qT (cR [0, 1] ?_)))
    refine oP (r := []) [0, 1] (S' := [(2, pb b1), (3, pb b7), (6, pb b22), (24, iv (wi64 (x25 + 1)))]) ?_
    refine oD ?_
    exact jT fun a ha => ⟨k, Nat.lt_succ_self k, wi64 (x25 + 1), st x26 x25 (wu8 (bShr .u32 (gt x11 (wi64 (x25.tdiv 4))) (wi64 (24 - (wi64 (8 * (x25.tmod 4))))))), h1, ha.keep [2, 3, 6, 24] (by kernel_rfl), hI, ((st_length _ _ _).trans hl27)⟩
   ·
    rw [if_neg hb28] at h1
    refine cN (b := decide (x25 < 32)) (by simpa using hb28) ?_
    refine jZ ?_
    refine jX (jX ?_)
    refine Qn.block ?_
    have hI := hI.mono (pick2 _ _ _)
    have hI := hI.drop
    have e := someS h1
    subst e
    exact jT fun a ha => ⟨x26, rfl, ha.keep [2, 6] (by kernel_rfl), hI, hl27⟩
  ·
   rintro a w ⟨x23, rfl, ha, hI, hl24⟩
   try dsimp only at h0
   refine Qn.of ?_ ha
   refine qT (cQ (cR [0, 1] ?_))
   refine oC (jY (jL (d := 40) (T := 23) (v := .agg (q8c x23).toArray) (by kernel_rfl) (ldBN ty23 (l := cA (Value.int .u8) x23) (o := 0) (cs := cA (Value.int .u8) x23) (ent_refl _) ((cA_length _ _).trans hl24) (whole _ _ ((cA_length _ _).trans hl24)))) hI ?_)
   have hI := hI.mono (pick2 _ _ _)
   refine oC (jV (T := 23) (b := b1) (n := 32) (xs := q8z) (ys := x23) (by kernel_rfl) ty23 hI (fun _ => rfl) (by kernel_rfl) hl24 ?_)
   intro w hI
   refine oD (qT (jE ?_))
   have hL32 := (ldBN ty23 (l := cA (Value.int .u8) x23) (o := 0) (cs := cA (Value.int .u8) x23) (ent_refl _) ((cA_length _ _).trans hl24) (whole _ _ ((cA_length _ _).trans hl24))) w hI
   have hI := hI.drop
   have hI := hI.drop
   have e := someS h0
   subst e
   refine qK [2] (S' := [(2, pb b1)]) ?_
   exact post_ret (v := .agg (q8c x23).toArray) (fun a ha => jU (vs := [.agg (q8c x23).toArray]) (.cell (t := 2) (T := 23) (ad := ⟨b1, 0, none⟩) (by kernel_rfl) hL32 .nil) ha (by kernel_rfl)) ⟨rfl, hl24, hI⟩
/-- cenotaph/event.parts -/
theorem c52 (w0 w : World) (Z : Hp) (A : HP) (hI : Inv w0 Z w A) (hT : Tabs Z) (a0 : ApiEvent) (hl1 : a0.Sum.length = 32) (r : (List Dyn88)) (h0 : event_parts a0 = some r) :
  Calls prog 52 #[.agg (c_ApiEvent a0).toArray] w (fun e w' => ∃ (A1 : Option Addr) (c1 : Nat), e = .returned (.slice A1 r.length c1) ∧ Inv w0 Z w' (star (ownS 88 cD88 1 A1 c1 r) A)) := by
 have e4 := calls_intro (R := (fun e w' => ∃ (A1 : Option Addr) (c1 : Nat), e = .returned (.slice A1 r.length c1) ∧ Inv w0 Z w' (star (ownS 88 cD88 1 A1 c1 r) A))) (w := w) (args := [.agg (c_ApiEvent a0).toArray]) (fn := Go.Proofs.Tryz.f52) 59 Go.Proofs.Tryz.func52 (by rfl) Go.Proofs.Tryz.ntmps52 (by kernel_rfl)
 refine e4 ?_
 clear e4
 unfold event_parts at h0
 refine cQ (cR [0, 1] ?_)
 refine oC (Does.boxL (d := 1) (T := 50) (v := .agg (c_ApiEvent a0).toArray) (c_ApiEvent a0) (by kernel_rfl) hI (by kernel_rfl) ?_)
 intro b2 w hI
 refine oP (r := []) [1] (S' := [(1, pb b2)]) ?_
 refine oD (qT (cQ (cR [0, 1, 2] ?_)))
 refine oP (r := [1, 2]) [0] (S' := [(1, pb b2), (4, .pointer (some ⟨b2, 1, none⟩))]) ?_
 refine oC (jY (jL (d := 5) (T := 3) (v := iv a0.ID) (by kernel_rfl) (ldB ty3 (l := c_ApiEvent a0) (o := 1) (v := iv a0.ID) (ent_refl _) (by kernel_rfl))) hI ?_)
 refine oP (r := []) [2] (S' := [(1, pb b2), (3, iv a0.ID)]) ?_
 refine oD (qT (cQ (cQ (cR [0, 1] ?_))))
 refine oP (r := [1]) [0] (S' := [(1, pb b2), (3, iv a0.ID), (6, pb b2)]) ?_
 refine oC (jY (jL (d := 7) (T := 48) (v := iv a0.Kind) (by kernel_rfl) (ldB ty48 (l := c_ApiEvent a0) (o := 0) (v := iv a0.Kind) (ent_refl _) (by kernel_rfl))) hI ?_)
 refine oD (qT (jB ?_))
 obtain ⟨r1, h1, h0⟩ := bindS h0
 refine jM (fun a w => ∃ (x3 : Bool), x3 = r1 ∧ Fr 59 [(1, pb b2), (3, iv a0.ID), (7, iv a0.Kind), (8, .bool x3)] a ∧ Inv w0 Z w (star (pt b2 (.cells (c_ApiEvent a0).toArray 50 (0, 0))) A)) ?_ ?_
 ·
  refine cQ (cR [0, 1] ?_)
  refine oP (r := []) [0, 1] (S' := [(1, pb b2), (3, iv a0.ID), (7, iv a0.Kind), (8, .bool (a0.Kind == 0))]) ?_
  refine oD (qT ?_)
  by_cases hb4 : (a0.Kind == 0) = true
  ·
   rw [if_pos hb4] at h1
   refine cY (b := a0.Kind == 0) hb4 ?_
   refine jS ?_
   have e := someS h1
   subst e
   exact jT fun a ha => ⟨a0.Kind == 0, rfl, ha.keep [1, 3, 7, 8] (by kernel_rfl), hI⟩
  ·
   rw [if_neg hb4] at h1
   refine cN (b := a0.Kind == 0) (by simpa using hb4) ?_
   refine cQ (cR [0, 1] ?_)
   refine oP (r := []) [0, 1] (S' := [(1, pb b2), (3, iv a0.ID), (7, iv a0.Kind), (8, .bool (a0.Kind == 4))]) ?_
   refine oD (qT ?_)
   by_cases hb5 : (a0.Kind == 4) = true
   ·
    rw [if_pos hb5] at h1
    refine cY (b := a0.Kind == 4) hb5 ?_
    refine jS ?_
    have e := someS h1
    subst e
    exact jT fun a ha => ⟨a0.Kind == 4, rfl, ha.keep [1, 3, 7, 8] (by kernel_rfl), hI⟩
   ·
    rw [if_neg hb5] at h1
    refine cN (b := a0.Kind == 4) (by simpa using hb5) ?_
    refine cR [0, 1] ?_
    refine oP (r := []) [0, 1] (S' := [(1, pb b2), (3, iv a0.ID), (7, iv a0.Kind), (8, .bool (a0.Kind == 5))]) ?_
    refine oD ?_
    have e := someS h1
    subst e
    exact jT fun a ha => ⟨a0.Kind == 5, rfl, ha.keep [1, 3, 7, 8] (by kernel_rfl), hI⟩
 ·
  rintro a w ⟨x3, rfl, ha, hI⟩
  try dsimp only at h0
  refine CodT.of ?_ ha
  by_cases hb6 : x3 = true
  ·
   rw [if_pos hb6] at h0
   refine cY (b := x3) hb6 ?_
   refine cQ (cR [0, 1, 2, 3, 4, 5, 6] ?_)
   refine oP (r := [3, 4, 5, 6]) [0, 1, 2] (S' := [(13, .iface 111 (iv a0.ID)), (14, .pointer (some ⟨b2, 2, none⟩))]) ?_
   refine oC (jY (jL (d := 15) (T := 9) (v := .string a0.Name) (by kernel_rfl) (ldB ty9 (l := c_ApiEvent a0) (o := 2) (v := .string a0.Name) (ent_refl _) (by kernel_rfl))) hI ?_)
   refine oP (r := [5, 6]) [4] (S' := [(13, .iface 111 (iv a0.ID)), (16, .iface 108 (.string a0.Name))]) ?_
   refine oC (Does.buildSlice (en := cD88) (d := 17) (n := 2) (T := 85) (ps := [(0, .iface 111 (iv a0.ID)), (1, .iface 108 (.string a0.Name))]) ([(Dyn88.i111 a0.ID), (Dyn88.i108 a0.Name)] : List Dyn88) (by kernel_rfl) Go.Proofs.Tryz.underlying85 ty88 (by kernel_rfl) (by kernel_rfl) (by kernel_rfl) (by kernel_rfl) (len_all (fun _ => rfl)) hI ?_)
   intro b7 w hI
   refine oP (r := []) [6] (S' := [(2, .slice (some ⟨b7, 0, none⟩) (([(Dyn88.i111 a0.ID), (Dyn88.i108 a0.Name)] : List Dyn88).length) 2)]) ?_
   refine oD (qT (jE (jQ (jR ?_))))
   have hI := hI.mono (pick2 _ _ _)
   have hI := hI.drop
   have e := someS h0
   subst e
   refine qK [2] (S' := [(2, .slice (some ⟨b7, 0, none⟩) (([(Dyn88.i111 a0.ID), (Dyn88.i108 a0.Name)] : List Dyn88).length) 2)]) ?_
   exact post_ret (v := .slice (some ⟨b7, 0, none⟩) (([(Dyn88.i111 a0.ID), (Dyn88.i108 a0.Name)] : List Dyn88).length) 2) (fun a ha => jU (vs := [.slice (some ⟨b7, 0, none⟩) (([(Dyn88.i111 a0.ID), (Dyn88.i108 a0.Name)] : List Dyn88).length) 2]) (.tmp (t := 2) (by kernel_rfl) .nil) ha (by kernel_rfl)) ⟨(some ⟨b7, 0, none⟩), 2, rfl, hI⟩
  ·
   rw [if_neg hb6] at h0
   refine cN (b := x3) (by simpa using hb6) ?_
   refine cQ (cR [0, 1] ?_)
   refine oP (r := []) [0, 1] (S' := [(1, pb b2), (3, iv a0.ID), (7, iv a0.Kind), (18, .bool (a0.Kind == 1))]) ?_
   refine oD (qT ?_)
   by_cases hb8 : (a0.Kind == 1) = true
   ·
    rw [if_pos hb8] at h0
    refine cY (b := a0.Kind == 1) hb8 ?_
    refine cQ (cR [0, 1, 2, 3, 4, 5, 6] ?_)
    refine oP (r := [3, 4, 5, 6]) [0, 1, 2] (S' := [(21, .iface 111 (iv a0.ID)), (22, .pointer (some ⟨b2, 4, none⟩))]) ?_
    refine oC (jY (jL (d := 23) (T := 3) (v := iv a0.Len) (by kernel_rfl) (ldB ty3 (l := c_ApiEvent a0) (o := 4) (v := iv a0.Len) (ent_refl _) (by kernel_rfl))) hI ?_)
    refine oP (r := [5, 6]) [4] (S' := [(21, .iface 111 (iv a0.ID)), (24, .iface 111 (iv a0.Len))]) ?_
    refine oC (Does.buildSlice (en := cD88) (d := 25) (n := 2) (T := 85) (ps := [(0, .iface 111 (iv a0.ID)), (1, .iface 111 (iv a0.Len))]) ([(Dyn88.i111 a0.ID), (Dyn88.i111 a0.Len)] : List Dyn88) (by kernel_rfl) Go.Proofs.Tryz.underlying85 ty88 (by kernel_rfl) (by kernel_rfl) (by kernel_rfl) (by kernel_rfl) (len_all (fun _ => rfl)) hI ?_)
    intro b9 w hI
    refine oP (r := []) [6] (S' := [(2, .slice (some ⟨b9, 0, none⟩) (([(Dyn88.i111 a0.ID), (Dyn88.i111 a0.Len)] : List Dyn88).length) 2)]) ?_
    refine oD (qT (jE (jQ (jR ?_))))
    have hI := hI.mono (pick2 _ _ _)
    have hI := hI.drop
    have e := someS h0
    subst e
    refine qK [2] (S' := [(2, .slice (some ⟨b9, 0, none⟩) (([(Dyn88.i111 a0.ID), (Dyn88.i111 a0.Len)] : List Dyn88).length) 2)]) ?_
    exact post_ret (v := .slice (some ⟨b9, 0, none⟩) (([(Dyn88.i111 a0.ID), (Dyn88.i111 a0.Len)] : List Dyn88).length) 2) (fun a ha => jU (vs := [.slice (some ⟨b9, 0, none⟩) (([(Dyn88.i111 a0.ID), (Dyn88.i111 a0.Len)] : List Dyn88).length) 2]) (.tmp (t := 2) (by kernel_rfl) .nil) ha (by kernel_rfl)) ⟨(some ⟨b9, 0, none⟩), 2, rfl, hI⟩
   ·
    rw [if_neg hb8] at h0
    refine cN (b := a0.Kind == 1) (by simpa using hb8) ?_
    refine cQ (cR [0, 1] ?_)
    refine oP (r := []) [0, 1] (S' := [(1, pb b2), (3, iv a0.ID), (7, iv a0.Kind), (26, .bool (a0.Kind == 2))]) ?_
    refine oD (qT ?_)
    by_cases hb10 : (a0.Kind == 2) = true
    ·
     rw [if_pos hb10] at h0
     refine cY (b := a0.Kind == 2) hb10 ?_
     refine cQ (cR [0, 1, 2, 3, 4, 5, 6, 7, 8, 9, 10, 11, 12] ?_)
     refine oP (r := [3, 4, 5, 6, 7, 8, 9, 10, 11, 12]) [0, 1, 2] (S' := [(1, pb b2), (29, .iface 111 (iv a0.ID)), (30, .pointer (some ⟨b2, 3, none⟩))]) ?_
     refine oC (jY (jL (d := 31) (T := 3) (v := iv a0.Time) (by kernel_rfl) (ldB ty3 (l := c_ApiEvent a0) (o := 3) (v := iv a0.Time) (ent_refl _) (by kernel_rfl))) hI ?_)
     refine oP (r := [6, 7, 8, 9, 10, 11, 12]) [4, 5] (S' := [(1, pb b2), (29, .iface 111 (iv a0.ID)), (32, .iface 111 (iv a0.Time)), (33, .pointer (some ⟨b2, 4, none⟩))]) ?_
     refine oC (jY (jL (d := 34) (T := 3) (v := iv a0.Len) (by kernel_rfl) (ldB ty3 (l := c_ApiEvent a0) (o := 4) (v := iv a0.Len) (ent_refl _) (by kernel_rfl))) hI ?_)
     refine oP (r := [9, 10, 11, 12]) [7, 8] (S' := [(29, .iface 111 (iv a0.ID)), (32, .iface 111 (iv a0.Time)), (35, .iface 111 (iv a0.Len)), (36, .pointer (some ⟨b2, 5, none⟩))]) ?_
     refine oC (jY (jL (d := 37) (T := 23) (v := .agg (q8c a0.Sum).toArray) (by kernel_rfl) (ldBN ty23 (l := c_ApiEvent a0) (o := 5) (cs := cA (Value.int .u8) a0.Sum) (ent_refl _) ((cA_length _ _).trans hl1) (tail_take _ _ _ _ _ (by kernel_rfl) hl1))) hI ?_)
     refine oP (r := [11, 12]) [10] (S' := [(29, .iface 111 (iv a0.ID)), (32, .iface 111 (iv a0.Time)), (35, .iface 111 (iv a0.Len)), (38, .iface 112 (.agg (q8c a0.Sum).toArray))]) ?_
     refine oC (Does.buildSlice (en := cD88) (d := 39) (n := 4) (T := 85) (ps := [(0, .iface 111 (iv a0.ID)), (1, .iface 111 (iv a0.Time)), (2, .iface 111 (iv a0.Len)), (3, .iface 112 (.agg (q8c a0.Sum).toArray))]) ([(Dyn88.i111 a0.ID), (Dyn88.i111 a0.Time), (Dyn88.i111 a0.Len), (Dyn88.i112 a0.Sum)] : List Dyn88) (by kernel_rfl) Go.Proofs.Tryz.underlying85 ty88 (by kernel_rfl) (by kernel_rfl) (by kernel_rfl) (by kernel_rfl) (len_all (fun _ => rfl)) hI ?_)
     intro b11 w hI
     refine oP (r := []) [12] (S' := [(2, .slice (some ⟨b11, 0, none⟩) (([(Dyn88.i111 a0.ID), (Dyn88.i111 a0.Time), (Dyn88.i111 a0.Len), (Dyn88.i112 a0.Sum)] : List Dyn88).length) 4)]) ?_
     refine oD (qT (jE (jQ (jR ?_))))
     have hI := hI.mono (pick2 _ _ _)
     have hI := hI.drop
     have e := someS h0
     subst e
     refine qK [2] (S' := [(2, .slice (some ⟨b11, 0, none⟩) (([(Dyn88.i111 a0.ID), (Dyn88.i111 a0.Time), (Dyn88.i111 a0.Len), (Dyn88.i112 a0.Sum)] : List Dyn88).length) 4)]) ?_
     exact post_ret (v := .slice (some ⟨b11, 0, none⟩) (([(Dyn88.i111 a0.ID), (Dyn88.i111 a0.Time), (Dyn88.i111 a0.Len), (Dyn88.i112 a0.Sum)] : List Dyn88).length) 4) (fun a ha => jU (vs := [.slice (some ⟨b11, 0, none⟩) (([(Dyn88.i111 a0.ID), (Dyn88.i111 a0.Time), (Dyn88.i111 a0.Len), (Dyn88.i112 a0.Sum)] : List Dyn88).length) 4]) (.tmp (t := 2) (by kernel_rfl) .nil) ha (by kernel_rfl)) ⟨(some ⟨b11, 0, none⟩), 4, rfl, hI⟩
    ·
     rw [if_neg hb10] at h0
     refine cN (b := a0.Kind == 2) (by simpa using hb10) ?_
     refine cQ (cR [0, 1] ?_)
     refine oP (r := []) [0, 1] (S' := [(1, pb b2), (3, iv a0.ID), (7, iv a0.Kind), (40, .bool (a0.Kind == 3))]) ?_
     refine oD (qT ?_)
     by_cases hb12 : (a0.Kind == 3) = true
     ·
      rw [if_pos hb12] at h0
      refine cY (b := a0.Kind == 3) hb12 ?_
      refine cQ (cR [0, 1, 2, 3, 4, 5, 6] ?_)
      refine oP (r := [3, 4, 5, 6]) [0, 1, 2] (S' := [(43, .iface 111 (iv a0.ID)), (44, .pointer (some ⟨b2, 3, none⟩))]) ?_
      refine oC (jY (jL (d := 45) (T := 3) (v := iv a0.Time) (by kernel_rfl) (ldB ty3 (l := c_ApiEvent a0) (o := 3) (v := iv a0.Time) (ent_refl _) (by kernel_rfl))) hI ?_)
      refine oP (r := [5, 6]) [4] (S' := [(43, .iface 111 (iv a0.ID)), (46, .iface 111 (iv a0.Time))]) ?_
      refine oC (Does.buildSlice (en := cD88) (d := 47) (n := 2) (T := 85) (ps := [(0, .iface 111 (iv a0.ID)), (1, .iface 111 (iv a0.Time))]) ([(Dyn88.i111 a0.ID), (Dyn88.i111 a0.Time)] : List Dyn88) (by kernel_rfl) Go.Proofs.Tryz.underlying85 ty88 (by kernel_rfl) (by kernel_rfl) (by kernel_rfl) (by kernel_rfl) (len_all (fun _ => rfl)) hI ?_)
      intro b13 w hI
      refine oP (r := []) [6] (S' := [(2, .slice (some ⟨b13, 0, none⟩) (([(Dyn88.i111 a0.ID), (Dyn88.i111 a0.Time)] : List Dyn88).length) 2)]) ?_
      refine oD (qT (jE (jQ (jR ?_))))
      have hI := hI.mono (pick2 _ _ _)
      have hI := hI.drop
      have e := someS h0
      subst e
      refine qK [2] (S' := [(2, .slice (some ⟨b13, 0, none⟩) (([(Dyn88.i111 a0.ID), (Dyn88.i111 a0.Time)] : List Dyn88).length) 2)]) ?_
      exact post_ret (v := .slice (some ⟨b13, 0, none⟩) (([(Dyn88.i111 a0.ID), (Dyn88.i111 a0.Time)] : List Dyn88).length) 2) (fun a ha => jU (vs := [.slice (some ⟨b13, 0, none⟩) (([(Dyn88.i111 a0.ID), (Dyn88.i111 a0.Time)] : List Dyn88).length) 2]) (.tmp (t := 2) (by kernel_rfl) .nil) ha (by kernel_rfl)) ⟨(some ⟨b13, 0, none⟩), 2, rfl, hI⟩
     ·
      rw [if_neg hb12] at h0
      refine cN (b := a0.Kind == 3) (by simpa using hb12) ?_
      refine cQ (cR [0, 1] ?_)
      refine oP (r := []) [0, 1] (S' := [(1, pb b2), (3, iv a0.ID), (7, iv a0.Kind), (48, .bool (a0.Kind == 6))]) ?_
      refine oD (qT ?_)
      by_cases hb14 : (a0.Kind == 6) = true
      ·
       rw [if_pos hb14] at h0
       refine cY (b := a0.Kind == 6) hb14 ?_
       refine cQ (cR [0, 1, 2, 3] ?_)
       refine oP (r := [2, 3]) [0, 1] (S' := [(51, .iface 111 (iv a0.ID))]) ?_
       refine oC (Does.buildSlice (en := cD88) (d := 52) (n := 1) (T := 85) (ps := [(0, .iface 111 (iv a0.ID))]) ([(Dyn88.i111 a0.ID)] : List Dyn88) (by kernel_rfl) Go.Proofs.Tryz.underlying85 ty88 (by kernel_rfl) (by kernel_rfl) (by kernel_rfl) (by kernel_rfl) (len_all (fun _ => rfl)) hI ?_)
       intro b15 w hI
       refine oP (r := []) [3] (S' := [(2, .slice (some ⟨b15, 0, none⟩) (([(Dyn88.i111 a0.ID)] : List Dyn88).length) 1)]) ?_
       refine oD (qT (jE (jQ (jR ?_))))
       have hI := hI.mono (pick2 _ _ _)
       have hI := hI.drop
       have e := someS h0
       subst e
       refine qK [2] (S' := [(2, .slice (some ⟨b15, 0, none⟩) (([(Dyn88.i111 a0.ID)] : List Dyn88).length) 1)]) ?_
       exact post_ret (v := .slice (some ⟨b15, 0, none⟩) (([(Dyn88.i111 a0.ID)] : List Dyn88).length) 1) (fun a ha => jU (vs := [.slice (some ⟨b15, 0, none⟩) (([(Dyn88.i111 a0.ID)] : List Dyn88).length) 1]) (.tmp (t := 2) (by kernel_rfl) .nil) ha (by kernel_rfl)) ⟨(some ⟨b15, 0, none⟩), 1, rfl, hI⟩
      ·
       rw [if_neg hb14] at h0
       refine cN (b := a0.Kind == 6) (by simpa using hb14) ?_
       refine cQ (cR [0, 1] ?_)
       refine oP (r := []) [0, 1] (S' := [(1, pb b2), (53, .bool (a0.Kind == 7))]) ?_
       refine oD (qT ?_)
       by_cases hb16 : (a0.Kind == 7) = true
       ·
        rw [if_pos hb16] at h0
        refine cY (b := a0.Kind == 7) hb16 ?_
        refine cQ (cR [0, 1, 2, 3, 4] ?_)
        refine oP (r := [1, 2, 3, 4]) [0] (S' := [(55, .pointer (some ⟨b2, 3, none⟩))]) ?_
        refine oC (jY (jL (d := 56) (T := 3) (v := iv a0.Time) (by kernel_rfl) (ldB ty3 (l := c_ApiEvent a0) (o := 3) (v := iv a0.Time) (ent_refl _) (by kernel_rfl))) hI ?_)
        refine oP (r := [3, 4]) [2] (S' := [(57, .iface 111 (iv a0.Time))]) ?_
        refine oC (Does.buildSlice (en := cD88) (d := 58) (n := 1) (T := 85) (ps := [(0, .iface 111 (iv a0.Time))]) ([(Dyn88.i111 a0.Time)] : List Dyn88) (by kernel_rfl) Go.Proofs.Tryz.underlying85 ty88 (by kernel_rfl) (by kernel_rfl) (by kernel_rfl) (by kernel_rfl) (len_all (fun _ => rfl)) hI ?_)
        intro b17 w hI
        refine oP (r := []) [4] (S' := [(2, .slice (some ⟨b17, 0, none⟩) (([(Dyn88.i111 a0.Time)] : List Dyn88).length) 1)]) ?_
        refine oD (qT (jE (jQ (jR ?_))))
        have hI := hI.mono (pick2 _ _ _)
        have hI := hI.drop
        have e := someS h0
        subst e
        refine qK [2] (S' := [(2, .slice (some ⟨b17, 0, none⟩) (([(Dyn88.i111 a0.Time)] : List Dyn88).length) 1)]) ?_
        exact post_ret (v := .slice (some ⟨b17, 0, none⟩) (([(Dyn88.i111 a0.Time)] : List Dyn88).length) 1) (fun a ha => jU (vs := [.slice (some ⟨b17, 0, none⟩) (([(Dyn88.i111 a0.Time)] : List Dyn88).length) 1]) (.tmp (t := 2) (by kernel_rfl) .nil) ha (by kernel_rfl)) ⟨(some ⟨b17, 0, none⟩), 1, rfl, hI⟩
       ·
        rw [if_neg hb16] at h0
        refine cN (b := a0.Kind == 7) (by simpa using hb16) ?_
        refine jS (jN (qT (cQ (cR [0] ?_))))
        refine oP (r := []) [0] (S' := [(2, .slice none 0 0)]) ?_
        refine oD (qT (jE ?_))
        have hI := ownS_nil (α := Dyn88) hI 88 cD88 1
        have hI := hI.mono (pick2 _ _ _)
        have hI := hI.drop
        have e := someS h0
        subst e
        refine qK [2] (S' := [(2, .slice none 0 0)]) ?_
        exact post_ret (v := .slice none 0 0) (fun a ha => jU (vs := [.slice none 0 0]) (.tmp (t := 2) (by kernel_rfl) .nil) ha (by kernel_rfl)) ⟨none, 0, rfl, hI⟩
/-- cenotaph/event.of -/
theorem c72 (w0 w : World) (Z : Hp) (A : HP) (hI : Inv w0 Z w A) (hT : Tabs Z) (a0 : Int) (A_a1 : Option Addr) (c_a1 : Nat) (a1 : (List Dyn88)) (hr_a1 : RdS Z cD88 1 A_a1 c_a1 a1) (r : ApiEvent) (h0 : event_of a0 a1 = some r) :
  Calls prog 72 #[iv a0, .slice A_a1 a1.length c_a1] w (fun e w' => e = .returned (.agg (c_ApiEvent r).toArray) ∧ r.Sum.length = 32 ∧ Inv w0 Z w' A) := by
 have e4 := calls_intro (R := (fun e w' => e = .returned (.agg (c_ApiEvent r).toArray) ∧ r.Sum.length = 32 ∧ Inv w0 Z w' A)) (w := w) (args := [iv a0, .slice A_a1 a1.length c_a1]) (fn := Go.Proofs.Tryz.f72) 74 Go.Proofs.Tryz.func72 (by rfl) Go.Proofs.Tryz.ntmps72 (by kernel_rfl)
 refine e4 ?_
 clear e4
 unfold event_of at h0
 refine cQ (cR [0] ?_)
 refine oC (jA (d := 4) (T := 50) (c_ApiEvent (ApiEvent.mk 0 0 q8e 0 0 q8z)) (by kernel_rfl) ty50 hI (by kernel_rfl) ?_)
 intro b1 w hI
 refine oD (qT (cQ (cR [0, 1, 2, 3] ?_)))
 refine oP (r := [2, 3]) [0, 1] (S' := [(0, iv a0), (1, .slice A_a1 a1.length c_a1), (4, pb b1), (13, .agg (c_ApiEvent (ApiEvent.mk a0 0 q8e 0 0 q8z)).toArray)]) ?_
 refine oC (jA (d := 5) (T := 50) (c_ApiEvent (ApiEvent.mk 0 0 q8e 0 0 q8z)) (by kernel_rfl) ty50 hI (by kernel_rfl) ?_)
 intro b2 w hI
 refine oC (dS (T := 50) (b := b2) (o := 0) (v := .agg (c_ApiEvent (ApiEvent.mk a0 0 q8e 0 0 q8z)).toArray) (l := c_ApiEvent (ApiEvent.mk 0 0 q8e 0 0 q8z)) (vs := c_ApiEvent (ApiEvent.mk a0 0 q8e 0 0 q8z)) (L' := c_ApiEvent (ApiEvent.mk a0 0 q8e 0 0 q8z)) (by kernel_rfl) ty50 hI (by kernel_rfl) (len_ApiEvent _ (by kernel_rfl)) (by rw [(len_ApiEvent _ (by kernel_rfl))]; kernel_rfl) (ones_app _ _ (by kernel_rfl) (ones_cA _)) (lset_all _ _ (Eq.trans (len_ApiEvent _ (by kernel_rfl)) (Eq.symm (len_ApiEvent _ (by kernel_rfl))))) ?_)
 intro w hI
 refine oD (qT (cQ (cR [0] ?_)))
 refine oP (r := []) [0] (S' := [(0, iv a0), (1, .slice A_a1 a1.length c_a1), (4, pb b1), (5, pb b2), (6, .slice none 0 0)]) ?_
 refine oD (qT (cQ (cQ (cR [0, 1, 2] ?_))))
 refine oP (r := []) [0, 1, 2] (S' := [(0, iv a0), (4, pb b1), (5, pb b2), (6, .slice none 0 0), (14, .slice A_a1 a1.length c_a1), (15, iv (a1.length : Int)), (16, iv 0)]) ?_
 refine oD (qT ?_)
 obtain ⟨r1, h1, h0⟩ := bindS h0
 refine CodT.meet1 (fun a w => ∃ (x3 : (List Int)) (x6 : ApiEvent) (A4 : Option Addr) (cp5 : Nat), (x3, x6) = r1 ∧ Fr 74 [(0, iv a0), (4, pb b1), (5, pb b2), (6, .slice A4 x3.length cp5)] a ∧ Inv w0 Z w (star (ownS 3 (cI .i64) 1 A4 cp5 x3) (star (pt b2 (.cells (c_ApiEvent x6).toArray 50 (0, 0))) (star (pt b1 (.cells (c_ApiEvent (ApiEvent.mk 0 0 q8e 0 0 q8z)).toArray 50 (0, 0))) A))) ∧ x6.Sum.length = 32) ?_ ?_
 ·
  refine jB ?_
  have hI := ownS_nil (α := Int) hI 3 (cI .i64) 1
  refine (fun a ha => wp_loopN (fun k a w => ∃ (x8 : (List Int)) (x11 : Int) (x12 : ApiEvent) (A9 : Option Addr) (cp10 : Nat), event_of.l0 a1 k x8 x11 x12 = some r1 ∧ Fr 74 [(0, iv a0), (4, pb b1), (5, pb b2), (6, .slice A9 x8.length cp10), (14, .slice A_a1 a1.length c_a1), (15, iv (a1.length : Int)), (16, iv x11)] a ∧ Inv w0 Z w (star (ownS 3 (cI .i64) 1 A9 cp10 x8) (star (pt b2 (.cells (c_ApiEvent x12).toArray 50 (0, 0))) (star (pt b1 (.cells (c_ApiEvent (ApiEvent.mk 0 0 q8e 0 0 q8z)).toArray 50 (0, 0))) A))) ∧ x12.Sum.length = 32) ?_ FU a w ⟨([] : List Int), 0, (ApiEvent.mk a0 0 q8e 0 0 q8z), none, 0, h1, ha.keep [0, 4, 5, 6, 14, 15, 16] (by kernel_rfl), hI, (by kernel_rfl)⟩)
  clear h1 hI
  rintro k a w ⟨x8, x11, x12, A9, cp10, h1, ha, hI, hl13⟩
  rcases k with _ | k
  ·
   cases h1
  simp only [event_of.l0] at h1
  refine CodT.of ?_ ha
  refine cQ (cR [0] ?_)
  refine oP (r := []) [0] (S' := [(0, iv a0), (4, pb b1), (5, pb b2), (6, .slice A9 x8.length cp10), (14, .slice A_a1 a1.length c_a1), (15, iv (a1.length : Int)), (16, iv x11), (17, .bool (decide (x11 < (a1.length : Int))))]) ?_
  refine oD (qT (cQ ?_))
  by_cases hb14 : (decide (x11 < (a1.length : Int))) = true
  ·
   rw [if_pos hb14] at h1
   refine cY (b := decide (x11 < (a1.length : Int))) hb14 ?_
   refine jS (qT ?_)
   obtain ⟨r2, h2, h1⟩ := bindS h1
   refine jM (fun a w => ∃ (x15 : (List Int)) (x18 : ApiEvent) (A16 : Option Addr) (cp17 : Nat), (x15, x18) = r2 ∧ Fr 74 [(0, iv a0), (4, pb b1), (5, pb b2), (6, .slice A16 x15.length cp17), (14, .slice A_a1 a1.length c_a1), (15, iv (a1.length : Int)), (16, iv x11)] a ∧ Inv w0 Z w (star (ownS 3 (cI .i64) 1 A16 cp17 x15) (star (pt b2 (.cells (c_ApiEvent x18).toArray 50 (0, 0))) (star (pt b1 (.cells (c_ApiEvent (ApiEvent.mk 0 0 q8e 0 0 q8z)).toArray 50 (0, 0))) A))) ∧ x18.Sum.length = 32) ?_ ?_
   ·
    refine jB (cQ (cR [0, 1, 2] ?_))
    obtain ⟨hg20, h2⟩ := guardS h2
    obtain ⟨g21, o25, hA22, hr23, hl24⟩ := RdS.get hr_a1 hg20.1 hg20.2
    refine oC (jY (Yl.indexSlice (d := 18) (T := 85) (cc := c_a1) (k := .i64) (j := x11) (g := g21) (o := o25) (by kernel_rfl) Go.Proofs.Tryz.underlying85 ty88 hA22 hg20.1 hg20.2) hI ?_)
    refine oC (jY (jL (d := 19) (T := 88) (v := dynV88 (gt a1 x11)) (by kernel_rfl) (ldR ty88 (v := dynV88 (gt a1 x11)) 0 (fun w hC => hr23 w0 w _ hC) (by kernel_rfl))) hI ?_)
    refine oP (r := []) [2] (S' := [(0, iv a0), (4, pb b1), (5, pb b2), (6, .slice A9 x8.length cp10), (8, dynV88 (gt a1 x11)), (14, .slice A_a1 a1.length c_a1), (15, iv (a1.length : Int)), (16, iv x11)]) ?_
    refine oD (qT (cQ (cR [0] ?_)))
    refine oP (r := []) [0] (S' := [(0, iv a0), (4, pb b1), (5, pb b2), (6, .slice A9 x8.length cp10), (14, .slice A_a1 a1.length c_a1), (15, iv (a1.length : Int)), (16, iv x11), (20, dynV88 (gt a1 x11))]) ?_
    refine oD (qT (jB (cQ (cR [0, 1, 2] ?_))))
    rcases hd26 : gt a1 x11 with _ | z27 | z28 | z29
    ·
     simp only [hd26] at h2
     refine OpsT.keep [0, 4, 5, 6, 14, 15, 16, 20] (S' := [(0, iv a0), (4, pb b1), (5, pb b2), (6, .slice A9 x8.length cp10), (14, .slice A_a1 a1.length c_a1), (15, iv (a1.length : Int)), (16, iv x11), (20, .nilIface)]) (by (try simp only [hd26]); kernel_rfl) ?_
     refine oP (r := []) [0, 1, 2] (S' := [(0, iv a0), (4, pb b1), (5, pb b2), (6, .slice A9 x8.length cp10), (14, .slice A_a1 a1.length c_a1), (15, iv (a1.length : Int)), (16, iv x11), (20, .nilIface), (22, .bool false), (23, iv 0)]) ?_
     refine oD (qT ?_)
     refine CodT.no (by kernel_rfl) ?_
     refine cQ (cR [0, 1, 2] ?_)
     refine oP (r := []) [0, 1, 2] (S' := [(0, iv a0), (4, pb b1), (5, pb b2), (6, .slice A9 x8.length cp10), (14, .slice A_a1 a1.length c_a1), (15, iv (a1.length : Int)), (16, iv x11), (20, .nilIface), (29, .bool false), (30, .string q8e)]) ?_
     refine oD (qT ?_)
     refine CodT.no (by kernel_rfl) ?_
     refine cQ (cR [0, 1, 2] ?_)
     refine oP (r := []) [0, 1, 2] (S' := [(0, iv a0), (4, pb b1), (5, pb b2), (6, .slice A9 x8.length cp10), (14, .slice A_a1 a1.length c_a1), (15, iv (a1.length : Int)), (16, iv x11), (34, .bool false), (35, .agg (q8c q8z).toArray)]) ?_
     refine oD (qT ?_)
     refine CodT.no (by kernel_rfl) ?_
     refine jS (jN (jN ?_))
     have e := someS h2
     subst e
     exact jT fun a ha => ⟨x8, x12, A9, cp10, rfl, ha.keep [0, 4, 5, 6, 14, 15, 16] (by kernel_rfl), hI, hl13⟩
    ·
     simp only [hd26] at h2
     refine OpsT.keep [0, 4, 5, 6, 14, 15, 16, 20] (S' := [(0, iv a0), (4, pb b1), (5, pb b2), (6, .slice A9 x8.length cp10), (14, .slice A_a1 a1.length c_a1), (15, iv (a1.length : Int)), (16, iv x11), (20, .iface 108 (.string z27))]) (by (try simp only [hd26]); kernel_rfl) ?_
     refine oP (r := []) [0, 1, 2] (S' := [(0, iv a0), (4, pb b1), (5, pb b2), (6, .slice A9 x8.length cp10), (14, .slice A_a1 a1.length c_a1), (15, iv (a1.length : Int)), (16, iv x11), (20, .iface 108 (.string z27)), (22, .bool false), (23, iv 0)]) ?_
     refine oD (qT ?_)
     refine CodT.no (by kernel_rfl) ?_
     refine cQ (cR [0, 1, 2] ?_)
     refine oP (r := []) [0, 1, 2] (S' := [(0, iv a0), (4, pb b1), (5, pb b2), (6, .slice A9 x8.length cp10), (14, .slice A_a1 a1.length c_a1), (15, iv (a1.length : Int)), (16, iv x11), (20, .iface 108 (.string z27)), (29, .bool true), (30, .string z27)]) ?_
     refine oD (qT ?_)
     refine CodT.yes (by kernel_rfl) ?_
     refine cQ (cR [0] ?_)
     refine oP (r := []) [0] (S' := [(0, iv a0), (4, pb b1), (5, pb b2), (6, .slice A9 x8.length cp10), (10, .string z27), (14, .slice A_a1 a1.length c_a1), (15, iv (a1.length : Int)), (16, iv x11)]) ?_
     refine oD (qT (cR [0, 1, 2] ?_))
     refine oP (r := [2]) [0, 1] (S' := [(0, iv a0), (4, pb b1), (5, pb b2), (6, .slice A9 x8.length cp10), (14, .slice A_a1 a1.length c_a1), (15, iv (a1.length : Int)), (16, iv x11), (31, .string z27), (32, .pointer (some ⟨b2, 2, none⟩))]) ?_
     have hI := hI.mono (pick2 _ _ _)
     refine oC (dS (T := 9) (b := b2) (o := 2) (v := .string z27) (l := c_ApiEvent x12) (vs := ([.string z27] : LV)) (L' := c_ApiEvent (ApiEvent.mk x12.Kind x12.ID z27 x12.Time x12.Len x12.Sum)) (by kernel_rfl) ty9 hI (by kernel_rfl) (by kernel_rfl) (by kernel_rfl) (by kernel_rfl) (by kernel_rfl) ?_)
     intro w hI
     refine oD (jN (jN ?_))
     have hI := hI.mono (pick3 _ _ _ _)
     have hI := hI.mono (pick2 _ _ _)
     have hI := hI.mono (pick3 _ _ _ _)
     have e := someS h2
     subst e
     exact jT fun a ha => ⟨x8, (ApiEvent.mk x12.Kind x12.ID z27 x12.Time x12.Len x12.Sum), A9, cp10, rfl, ha.keep [0, 4, 5, 6, 14, 15, 16] (by kernel_rfl), hI, hl13⟩
    ·
     simp only [hd26] at h2
     refine OpsT.keep [0, 4, 5, 6, 14, 15, 16, 20] (S' := [(0, iv a0), (4, pb b1), (5, pb b2), (6, .slice A9 x8.length cp10), (14, .slice A_a1 a1.length c_a1), (15, iv (a1.length : Int)), (16, iv x11), (20, .iface 111 (iv z28))]) (by (try simp only [hd26]); kernel_rfl) ?_
     refine oP (r := []) [0, 1, 2] (S' := [(0, iv a0), (4, pb b1), (5, pb b2), (6, .slice A9 x8.length cp10), (14, .slice A_a1 a1.length c_a1), (15, iv (a1.length : Int)), (16, iv x11), (20, .iface 111 (iv z28)), (22, .bool true), (23, iv z28)]) ?_
     refine oD (qT ?_)
     refine CodT.yes (by kernel_rfl) ?_
     refine cQ (cR [0] ?_)
     refine oP (r := []) [0] (S' := [(0, iv a0), (4, pb b1), (5, pb b2), (6, .slice A9 x8.length cp10), (9, iv z28), (14, .slice A_a1 a1.length c_a1), (15, iv (a1.length : Int)), (16, iv x11)]) ?_
     refine oD (qT (cR [0, 1, 2, 3, 4] ?_))
     refine oP (r := [2, 3, 4]) [0, 1] (S' := [(0, iv a0), (4, pb b1), (5, pb b2), (14, .slice A_a1 a1.length c_a1), (15, iv (a1.length : Int)), (16, iv x11), (24, .slice A9 x8.length cp10), (25, iv z28)]) ?_
     refine oC (Does.buildSlice (en := (cI .i64)) (d := 26) (n := 1) (T := 139) (ps := [(0, iv z28)]) ([z28] : List Int) (by kernel_rfl) Go.Proofs.Tryz.underlying139 ty3 (by kernel_rfl) (by kernel_rfl) (by kernel_rfl) (by kernel_rfl) (len_all (fun _ => rfl)) hI ?_)
     intro b30 w hI
     obtain ⟨hg31, h2⟩ := guardS h2
     have hI := hI.mono (pick2 _ _ _)
     refine oC (Does.append (d := 27) (t := 139) (tx := 139) (ty := 139) (ys := x8) (zs := ([z28] : List Int)) (x := .slice (some ⟨b30, 0, none⟩) (([z28] : List Int).length) 1) (by kernel_rfl) Go.Proofs.Tryz.underlying139 ty3 (by kernel_rfl) hI (src_own Go.Proofs.Tryz.underlying139 (hI.mono (pick2 _ _ _)) (one_flat _ (fun _ => rfl))) (ownS_facts (hI.mono (pick2 _ _ _))).2.2 (by unfold LIM at hg31; omega) hg31 ?_)
     intro A32 cp33 w hI
     refine oP (r := []) [4] (S' := [(0, iv a0), (4, pb b1), (5, pb b2), (6, .slice A32 ((x8 ++ ([z28] : List Int)).length) cp33), (14, .slice A_a1 a1.length c_a1), (15, iv (a1.length : Int)), (16, iv x11)]) ?_
     refine oD (jN (jN ?_))
     have hI := hI.mono (pick2 _ _ _)
     have hI := hI.drop
     have e := someS h2
     subst e
     exact jT fun a ha => ⟨x8 ++ ([z28] : List Int), x12, A32, cp33, rfl, ha.keep [0, 4, 5, 6, 14, 15, 16] (by kernel_rfl), hI, hl13⟩
    ·
     simp only [hd26] at h2
     obtain ⟨hg34, h2⟩ := guardS h2
     refine OpsT.keep [0, 4, 5, 6, 14, 15, 16, 20] (S' := [(0, iv a0), (4, pb b1), (5, pb b2), (6, .slice A9 x8.length cp10), (14, .slice A_a1 a1.length c_a1), (15, iv (a1.length : Int)), (16, iv x11), (20, .iface 112 (.agg (q8c z29).toArray))]) (by (try simp only [hd26]); kernel_rfl) ?_
     refine oP (r := []) [0, 1, 2] (S' := [(0, iv a0), (4, pb b1), (5, pb b2), (6, .slice A9 x8.length cp10), (14, .slice A_a1 a1.length c_a1), (15, iv (a1.length : Int)), (16, iv x11), (20, .iface 112 (.agg (q8c z29).toArray)), (22, .bool false), (23, iv 0)]) ?_
     refine oD (qT ?_)
     refine CodT.no (by kernel_rfl) ?_
     refine cQ (cR [0, 1, 2] ?_)
     refine oP (r := []) [0, 1, 2] (S' := [(0, iv a0), (4, pb b1), (5, pb b2), (6, .slice A9 x8.length cp10), (14, .slice A_a1 a1.length c_a1), (15, iv (a1.length : Int)), (16, iv x11), (20, .iface 112 (.agg (q8c z29).toArray)), (29, .bool false), (30, .string q8e)]) ?_
     refine oD (qT ?_)
     refine CodT.no (by kernel_rfl) ?_
     refine cQ (cR [0, 1, 2] ?_)
     refine oP (r := []) [0, 1, 2] (S' := [(0, iv a0), (4, pb b1), (5, pb b2), (6, .slice A9 x8.length cp10), (14, .slice A_a1 a1.length c_a1), (15, iv (a1.length : Int)), (16, iv x11), (34, .bool true), (35, .agg (q8c z29).toArray)]) ?_
     refine oD (qT ?_)
     refine CodT.yes (by kernel_rfl) ?_
     refine cQ (cR [0, 1] ?_)
     refine oC (jA (d := 11) (T := 112) (q8c q8z) (by kernel_rfl) ty112 hI (by kernel_rfl) ?_)
     intro b35 w hI
     refine oC (jV (T := 112) (b := b35) (n := 32) (xs := q8z) (ys := z29) (by kernel_rfl) ty112 hI (fun _ => rfl) (by kernel_rfl) hg34 ?_)
     intro w hI
     refine oD (qT (cR [0, 1, 2] ?_))
     refine oC (jY (jL (d := 36) (T := 112) (v := .agg (q8c z29).toArray) (by kernel_rfl) (ldBN ty112 (l := cA (Value.int .u8) z29) (o := 0) (cs := cA (Value.int .u8) z29) (ent_refl _) ((cA_length _ _).trans hg34) (whole _ _ ((cA_length _ _).trans hg34)))) hI ?_)
     refine oP (r := [2]) [1] (S' := [(0, iv a0), (4, pb b1), (5, pb b2), (6, .slice A9 x8.length cp10), (14, .slice A_a1 a1.length c_a1), (15, iv (a1.length : Int)), (16, iv x11), (36, .agg (q8c z29).toArray), (37, .pointer (some ⟨b2, 5, none⟩))]) ?_
     have hI := hI.mono (pick3 _ _ _ _)
     refine oC (dS (T := 23) (b := b2) (o := 5) (v := .agg (q8c z29).toArray) (l := c_ApiEvent x12) (vs := cA (Value.int .u8) z29) (L' := c_ApiEvent (ApiEvent.mk x12.Kind x12.ID x12.Name x12.Time x12.Len z29)) (by kernel_rfl) ty23 hI (by kernel_rfl) ((cA_length _ _).trans hg34) (by rw [(len_ApiEvent _ hl13)]; kernel_rfl) (ones_cA _) (tail_all _ _ _ _ _ (by kernel_rfl) (Eq.trans hg34 (Eq.symm hl13))) ?_)
     intro w hI
     refine oD (jN (jN ?_))
     have hI := hI.mono (pick2 _ _ _)
     have hI := hI.drop
     have hI := hI.mono (pick3 _ _ _ _)
     have hI := hI.mono (pick2 _ _ _)
     have hI := hI.mono (pick3 _ _ _ _)
     have e := someS h2
     subst e
     exact jT fun a ha => ⟨x8, (ApiEvent.mk x12.Kind x12.ID x12.Name x12.Time x12.Len z29), A9, cp10, rfl, ha.keep [0, 4, 5, 6, 14, 15, 16] (by kernel_rfl), hI, hg34⟩
   ·
    rintro a w ⟨x15, x18, A16, cp17, rfl, ha, hI, hl19⟩
    try dsimp only at h1
    refine CodT.of ?_ ha
    refine cR [0, 1] ?_
    refine oP (r := []) [0, 1] (S' := [(0, iv a0), (4, pb b1), (5, pb b2), (6, .slice A16 x15.length cp17), (14, .slice A_a1 a1.length c_a1), (15, iv (a1.length : Int)), (16, iv (wi64 (x11 + 1)))]) ?_
    refine oD ?_
    exact jT fun a ha => ⟨k, Nat.lt_succ_self k, x15, wi64 (x11 + 1), x18, A16, cp17, h1, ha.keep [0, 4, 5, 6, 14, 15, 16] (by kernel_rfl), hI, hl19⟩
  ·
   rw [if_neg hb14] at h1
   refine cN (b := decide (x11 < (a1.length : Int))) (by simpa using hb14) ?_
   refine jZ ?_
   refine jX (jX ?_)
   refine Qn.block ?_
   have e := someS h1
   subst e
   exact jT fun a ha => ⟨x8, x12, A9, cp10, rfl, ha.keep [0, 4, 5, 6] (by kernel_rfl), hI, hl13⟩
 ·
  rintro a w ⟨x3, x6, A4, cp5, rfl, ha, hI, hl7⟩
  try dsimp only at h0
  refine Qn.of ?_ ha
  refine qT ?_
  obtain ⟨r1, h1, h0⟩ := bindS h0
  refine jM (fun a w => ∃ (x36 : ApiEvent), .inr x36 = r1 ∧ Fr 74 [(4, pb b1), (5, pb b2), (6, .slice A4 x3.length cp5)] a ∧ Inv w0 Z w (star (pt b2 (.cells (c_ApiEvent x36).toArray 50 (0, 0))) (star (pt b1 (.cells (c_ApiEvent (ApiEvent.mk 0 0 q8e 0 0 q8z)).toArray 50 (0, 0))) (star (ownS 3 (cI .i64) 1 A4 cp5 x3) A))) ∧ x36.Sum.length = 32) ?_ ?_
  ·
   refine cQ (cR [0] ?_)
   refine oP (r := []) [0] (S' := [(4, pb b1), (5, pb b2), (6, .slice A4 x3.length cp5), (39, iv a0)]) ?_
   refine oD (qT (jB (cQ (cR [0, 1] ?_))))
   refine oP (r := []) [0, 1] (S' := [(4, pb b1), (5, pb b2), (6, .slice A4 x3.length cp5), (39, iv a0), (40, .bool (a0 == 7))]) ?_
   refine oD (qT ?_)
   by_cases hb38 : (a0 == 7) = true
   ·
    rw [if_pos hb38] at h1
    refine cY (b := a0 == 7) hb38 ?_
    refine cQ (cR [0, 1, 2, 3, 4] ?_)
    refine oP (r := [1, 2, 3, 4]) [0] (S' := [(4, pb b1), (5, pb b2), (42, .slice A4 x3.length cp5)]) ?_
    obtain ⟨hg39, h1⟩ := guardS h1
    obtain ⟨g40, hA41, hr42, hl43⟩ := ownS_get hI hg39.1 hg39.2
    refine oC (jY (Yl.indexSlice (d := 43) (T := 139) (cc := cp5) (k := .i64) (j := 0) (g := g40) (o := 0) (by kernel_rfl) Go.Proofs.Tryz.underlying139 ty3 hA41 hg39.1 hg39.2) hI ?_)
    refine oC (jY (jL (d := 44) (T := 3) (v := iv (gt x3 0)) (by kernel_rfl) (ldR ty3 (v := iv (gt x3 0)) 0 (fun w hC => hr42 w0 w _ hC) (by kernel_rfl))) hI ?_)
    refine oP (r := [4]) [3] (S' := [(4, pb b1), (5, pb b2), (44, iv (gt x3 0)), (45, .pointer (some ⟨b2, 3, none⟩))]) ?_
    have hI := hI.mono (pick2 _ _ _)
    refine oC (dS (T := 3) (b := b2) (o := 3) (v := iv (gt x3 0)) (l := c_ApiEvent x6) (vs := ([iv (gt x3 0)] : LV)) (L' := c_ApiEvent (ApiEvent.mk x6.Kind x6.ID x6.Name (gt x3 0) x6.Len x6.Sum)) (by kernel_rfl) ty3 hI (by kernel_rfl) (by kernel_rfl) (by kernel_rfl) (by kernel_rfl) (by kernel_rfl) ?_)
    intro w hI
    refine oD (qT (cQ (cR [0, 1] ?_)))
    refine oC (jY (jL (d := 46) (T := 50) (v := .agg (c_ApiEvent (ApiEvent.mk x6.Kind x6.ID x6.Name (gt x3 0) x6.Len x6.Sum)).toArray) (by kernel_rfl) (ldBN ty50 (l := c_ApiEvent (ApiEvent.mk x6.Kind x6.ID x6.Name (gt x3 0) x6.Len x6.Sum)) (o := 0) (cs := c_ApiEvent (ApiEvent.mk x6.Kind x6.ID x6.Name (gt x3 0) x6.Len x6.Sum)) (ent_refl _) (len_ApiEvent _ hl7) (whole _ _ (len_ApiEvent _ hl7)))) hI ?_)
    have hI := hI.mono (pick3 _ _ _ _)
    refine oC (dS (T := 50) (b := b1) (o := 0) (v := .agg (c_ApiEvent (ApiEvent.mk x6.Kind x6.ID x6.Name (gt x3 0) x6.Len x6.Sum)).toArray) (l := c_ApiEvent (ApiEvent.mk 0 0 q8e 0 0 q8z)) (vs := c_ApiEvent (ApiEvent.mk x6.Kind x6.ID x6.Name (gt x3 0) x6.Len x6.Sum)) (L' := c_ApiEvent (ApiEvent.mk x6.Kind x6.ID x6.Name (gt x3 0) x6.Len x6.Sum)) (by kernel_rfl) ty50 hI (by kernel_rfl) (len_ApiEvent _ hl7) (by rw [(len_ApiEvent _ (by kernel_rfl))]; kernel_rfl) (ones_app _ _ (by kernel_rfl) (ones_cA _)) (lset_all _ _ (Eq.trans (len_ApiEvent _ hl7) (Eq.symm (len_ApiEvent _ (by kernel_rfl))))) ?_)
    intro w hI
    refine oD (qT (jE (jQ (jR ?_))))
    have hL44 := (ldBN ty50 (l := c_ApiEvent (ApiEvent.mk x6.Kind x6.ID x6.Name (gt x3 0) x6.Len x6.Sum)) (o := 0) (cs := c_ApiEvent (ApiEvent.mk x6.Kind x6.ID x6.Name (gt x3 0) x6.Len x6.Sum)) (ent_refl _) (len_ApiEvent _ hl7) (whole _ _ (len_ApiEvent _ hl7))) w hI
    have hI := hI.drop
    have hI := hI.drop
    have hI := hI.drop
    have e := someS h1
    subst e
    try dsimp only at h0
    have e := someS h0
    subst e
    refine qK [4] (S' := [(4, pb b1)]) ?_
    exact post_ret (v := .agg (c_ApiEvent (ApiEvent.mk x6.Kind x6.ID x6.Name (gt x3 0) x6.Len x6.Sum)).toArray) (fun a ha => jU (vs := [.agg (c_ApiEvent (ApiEvent.mk x6.Kind x6.ID x6.Name (gt x3 0) x6.Len x6.Sum)).toArray]) (.cell (t := 4) (T := 50) (ad := ⟨b1, 0, none⟩) (by kernel_rfl) hL44 .nil) ha (by kernel_rfl)) ⟨rfl, hl7, hI⟩
   ·
    rw [if_neg hb38] at h1
    refine cN (b := a0 == 7) (by simpa using hb38) ?_
    refine cQ (cR [0, 1] ?_)
    refine oP (r := []) [0, 1] (S' := [(4, pb b1), (5, pb b2), (6, .slice A4 x3.length cp5), (39, iv a0), (47, .bool (a0 == 1))]) ?_
    refine oD (qT ?_)
    by_cases hb45 : (a0 == 1) = true
    ·
     rw [if_pos hb45] at h1
     refine cY (b := a0 == 1) hb45 ?_
     refine cR [0, 1, 2, 3, 4] ?_
     refine oP (r := [1, 2, 3, 4]) [0] (S' := [(4, pb b1), (5, pb b2), (6, .slice A4 x3.length cp5), (49, .slice A4 x3.length cp5)]) ?_
     obtain ⟨hg46, h1⟩ := guardS h1
     obtain ⟨g47, hA48, hr49, hl50⟩ := ownS_get hI hg46.1 hg46.2
     refine oC (jY (Yl.indexSlice (d := 50) (T := 139) (cc := cp5) (k := .i64) (j := 1) (g := g47) (o := 0) (by kernel_rfl) Go.Proofs.Tryz.underlying139 ty3 hA48 hg46.1 hg46.2) hI ?_)
     refine oC (jY (jL (d := 51) (T := 3) (v := iv (gt x3 1)) (by kernel_rfl) (ldR ty3 (v := iv (gt x3 1)) 0 (fun w hC => hr49 w0 w _ hC) (by kernel_rfl))) hI ?_)
     refine oP (r := [4]) [3] (S' := [(4, pb b1), (5, pb b2), (6, .slice A4 x3.length cp5), (51, iv (gt x3 1)), (52, .pointer (some ⟨b2, 4, none⟩))]) ?_
     have hI := hI.mono (pick2 _ _ _)
     refine oC (dS (T := 3) (b := b2) (o := 4) (v := iv (gt x3 1)) (l := c_ApiEvent x6) (vs := ([iv (gt x3 1)] : LV)) (L' := c_ApiEvent (ApiEvent.mk x6.Kind x6.ID x6.Name x6.Time (gt x3 1) x6.Sum)) (by kernel_rfl) ty3 hI (by kernel_rfl) (by kernel_rfl) (by kernel_rfl) (by kernel_rfl) (by kernel_rfl) ?_)
     intro w hI
     refine oD (jN ?_)
     have hI := hI.mono (pick2 _ _ _)
     have hI := hI.mono (pick3 _ _ _ _)
     have hI := hI.mono (pick3 _ _ _ _)
     have e := someS h1
     subst e
     exact jT fun a ha => ⟨(ApiEvent.mk x6.Kind x6.ID x6.Name x6.Time (gt x3 1) x6.Sum), rfl, ha.keep [4, 5, 6] (by kernel_rfl), hI, hl7⟩
    ·
     rw [if_neg hb45] at h1
     refine cN (b := a0 == 1) (by simpa using hb45) ?_
     refine cQ (cR [0, 1] ?_)
     refine oP (r := []) [0, 1] (S' := [(4, pb b1), (5, pb b2), (6, .slice A4 x3.length cp5), (39, iv a0), (53, .bool (a0 == 2))]) ?_
     refine oD (qT ?_)
     by_cases hb51 : (a0 == 2) = true
     ·
      rw [if_pos hb51] at h1
      refine cY (b := a0 == 2) hb51 ?_
      refine CodT.drawC (n := 10) (B := (star (ownS 3 (cI .i64) 1 A4 cp5 x3) (star (pt b1 (.cells (c_ApiEvent (ApiEvent.mk 0 0 q8e 0 0 q8z)).toArray 50 (0, 0))) A))) [] (by kernel_rfl) (by kernel_rfl) hI ?_
      intro w hI
      refine gP 0 55 (.slice A4 x3.length cp5) ?_
      refine gP 3 58 (.slice A4 x3.length cp5) ?_
      obtain ⟨hg52, h1⟩ := guardS h1
      obtain ⟨g53, hA54, hr55, hl56⟩ := ownS_get hI hg52.1 hg52.2
      have hC := hI
      have hC := hC.mono (pick2 _ _ _)
      have hC := hC.drop
      refine gR (i := 1) 2 (Yl.indexSlice (d := 56) (T := 139) (cc := cp5) (k := .i64) (j := 1) (g := g53) (o := 0) (by kernel_rfl) Go.Proofs.Tryz.underlying139 ty3 hA54 hg52.1 hg52.2) hC ?_
      have hC := hI
      have hC := hC.mono (pick2 _ _ _)
      have hC := hC.drop
      refine gR (i := 2) 2 (jL (d := 57) (T := 3) (v := iv (gt x3 1)) (by kernel_rfl) (ldR ty3 (v := iv (gt x3 1)) 0 (fun w hC => hr55 w0 w _ hC) (by kernel_rfl))) hC ?_
      refine gP 6 61 (.pointer (some ⟨b2, 3, none⟩)) ?_
      obtain ⟨hg57, h1⟩ := guardS h1
      obtain ⟨g58, hA59, hr60, hl61⟩ := ownS_get hI hg57.1 hg57.2
      have hC := hI
      have hC := hC.mono (pick2 _ _ _)
      have hC := hC.drop
      refine gR (i := 4) 2 (Yl.indexSlice (d := 59) (T := 139) (cc := cp5) (k := .i64) (j := 2) (g := g58) (o := 0) (by kernel_rfl) Go.Proofs.Tryz.underlying139 ty3 hA59 hg57.1 hg57.2) hC ?_
      have hC := hI
      have hC := hC.mono (pick2 _ _ _)
      have hC := hC.drop
      refine gR (i := 5) 2 (jL (d := 60) (T := 3) (v := iv (gt x3 2)) (by kernel_rfl) (ldR ty3 (v := iv (gt x3 2)) 0 (fun w hC => hr60 w0 w _ hC) (by kernel_rfl))) hC ?_
      have hI := hI.mono (pick2 _ _ _)
      refine jO (i := 7) (by kernel_rfl) (dS (T := 3) (b := b2) (o := 3) (v := iv (gt x3 1)) (l := c_ApiEvent x6) (vs := ([iv (gt x3 1)] : LV)) (L' := c_ApiEvent (ApiEvent.mk x6.Kind x6.ID x6.Name (gt x3 1) x6.Len x6.Sum)) (by kernel_rfl) ty3 hI (by kernel_rfl) (by kernel_rfl) (by kernel_rfl) (by kernel_rfl) (by kernel_rfl) ?_)
      intro w hI
      have hC := hI
      have hC := hC.drop
      refine ⟨fun _ _ => hC, ?_⟩
      refine gP 8 62 (.pointer (some ⟨b2, 4, none⟩)) ?_
      refine jO (i := 9) (by kernel_rfl) (dS (T := 3) (b := b2) (o := 4) (v := iv (gt x3 2)) (l := c_ApiEvent (ApiEvent.mk x6.Kind x6.ID x6.Name (gt x3 1) x6.Len x6.Sum)) (vs := ([iv (gt x3 2)] : LV)) (L' := c_ApiEvent (ApiEvent.mk x6.Kind x6.ID x6.Name (gt x3 1) (gt x3 2) x6.Sum)) (by kernel_rfl) ty3 hI (by kernel_rfl) (by kernel_rfl) (by kernel_rfl) (by kernel_rfl) (by kernel_rfl) ?_)
      intro w hI
      have hC := hI
      have hC := hC.drop
      refine ⟨fun _ _ => hC, ?_⟩
      refine jD (by kernel_rfl) ?_
      refine jN ?_
      have hI := hI.mono (pick2 _ _ _)
      have hI := hI.mono (pick3 _ _ _ _)
      have hI := hI.mono (pick3 _ _ _ _)
      have e := someS h1
      subst e
      exact jT fun a ha => ⟨(ApiEvent.mk x6.Kind x6.ID x6.Name (gt x3 1) (gt x3 2) x6.Sum), rfl, ha.keep [4, 5, 6] (by kernel_rfl), hI, hl7⟩
     ·
      rw [if_neg hb51] at h1
      refine cN (b := a0 == 2) (by simpa using hb51) ?_
      refine cQ (cR [0, 1] ?_)
      refine oP (r := []) [0, 1] (S' := [(4, pb b1), (5, pb b2), (6, .slice A4 x3.length cp5), (63, .bool (a0 == 3))]) ?_
      refine oD (qT ?_)
      by_cases hb62 : (a0 == 3) = true
      ·
       rw [if_pos hb62] at h1
       refine cY (b := a0 == 3) hb62 ?_
       refine cR [0, 1, 2, 3, 4] ?_
       refine oP (r := [1, 2, 3, 4]) [0] (S' := [(4, pb b1), (5, pb b2), (6, .slice A4 x3.length cp5), (65, .slice A4 x3.length cp5)]) ?_
       obtain ⟨hg63, h1⟩ := guardS h1
       obtain ⟨g64, hA65, hr66, hl67⟩ := ownS_get hI hg63.1 hg63.2
       refine oC (jY (Yl.indexSlice (d := 66) (T := 139) (cc := cp5) (k := .i64) (j := 1) (g := g64) (o := 0) (by kernel_rfl) Go.Proofs.Tryz.underlying139 ty3 hA65 hg63.1 hg63.2) hI ?_)
       refine oC (jY (jL (d := 67) (T := 3) (v := iv (gt x3 1)) (by kernel_rfl) (ldR ty3 (v := iv (gt x3 1)) 0 (fun w hC => hr66 w0 w _ hC) (by kernel_rfl))) hI ?_)
       refine oP (r := [4]) [3] (S' := [(4, pb b1), (5, pb b2), (6, .slice A4 x3.length cp5), (67, iv (gt x3 1)), (68, .pointer (some ⟨b2, 3, none⟩))]) ?_
       have hI := hI.mono (pick2 _ _ _)
       refine oC (dS (T := 3) (b := b2) (o := 3) (v := iv (gt x3 1)) (l := c_ApiEvent x6) (vs := ([iv (gt x3 1)] : LV)) (L' := c_ApiEvent (ApiEvent.mk x6.Kind x6.ID x6.Name (gt x3 1) x6.Len x6.Sum)) (by kernel_rfl) ty3 hI (by kernel_rfl) (by kernel_rfl) (by kernel_rfl) (by kernel_rfl) (by kernel_rfl) ?_)
       intro w hI
       refine oD (jN ?_)
       have hI := hI.mono (pick2 _ _ _)
       have hI := hI.mono (pick3 _ _ _ _)
       have hI := hI.mono (pick3 _ _ _ _)
       have e := someS h1
       subst e
       exact jT fun a ha => ⟨(ApiEvent.mk x6.Kind x6.ID x6.Name (gt x3 1) x6.Len x6.Sum), rfl, ha.keep [4, 5, 6] (by kernel_rfl), hI, hl7⟩
      ·
       rw [if_neg hb62] at h1
       refine cN (b := a0 == 3) (by simpa using hb62) ?_
       refine jS (jN ?_)
       have hI := hI.mono (pick3 _ _ _ _)
       have hI := hI.mono (pick3 _ _ _ _)
       have e := someS h1
       subst e
       exact jT fun a ha => ⟨x6, rfl, ha.keep [4, 5, 6] (by kernel_rfl), hI, hl7⟩
  ·
   rintro a w ⟨x36, rfl, ha, hI, hl37⟩
   try dsimp only at h0
   refine CodT.of ?_ ha
   refine cQ (cR [0, 1, 2, 3, 4] ?_)
   refine oP (r := [1, 2, 3, 4]) [0] (S' := [(4, pb b1), (5, pb b2), (69, .slice A4 x3.length cp5)]) ?_
   obtain ⟨hg68, h0⟩ := guardS h0
   obtain ⟨g69, hA70, hr71, hl72⟩ := ownS_get (hI.mono (pick3 _ _ _ _)) hg68.1 hg68.2
   refine oC (jY (Yl.indexSlice (d := 70) (T := 139) (cc := cp5) (k := .i64) (j := 0) (g := g69) (o := 0) (by kernel_rfl) Go.Proofs.Tryz.underlying139 ty3 hA70 hg68.1 hg68.2) hI ?_)
   refine oC (jY (jL (d := 71) (T := 3) (v := iv (gt x3 0)) (by kernel_rfl) (ldR ty3 (v := iv (gt x3 0)) 0 (fun w hC => hr71 w0 w _ (hC.mono (pick3 _ _ _ _))) (by kernel_rfl))) hI ?_)
   refine oP (r := [4]) [3] (S' := [(4, pb b1), (5, pb b2), (71, iv (gt x3 0)), (72, .pointer (some ⟨b2, 1, none⟩))]) ?_
   refine oC (dS (T := 3) (b := b2) (o := 1) (v := iv (gt x3 0)) (l := c_ApiEvent x36) (vs := ([iv (gt x3 0)] : LV)) (L' := c_ApiEvent (ApiEvent.mk x36.Kind (gt x3 0) x36.Name x36.Time x36.Len x36.Sum)) (by kernel_rfl) ty3 hI (by kernel_rfl) (by kernel_rfl) (by kernel_rfl) (by kernel_rfl) (by kernel_rfl) ?_)
   intro w hI
   refine oD (qT (cQ (cR [0, 1] ?_)))
   refine oC (jY (jL (d := 73) (T := 50) (v := .agg (c_ApiEvent (ApiEvent.mk x36.Kind (gt x3 0) x36.Name x36.Time x36.Len x36.Sum)).toArray) (by kernel_rfl) (ldBN ty50 (l := c_ApiEvent (ApiEvent.mk x36.Kind (gt x3 0) x36.Name x36.Time x36.Len x36.Sum)) (o := 0) (cs := c_ApiEvent (ApiEvent.mk x36.Kind (gt x3 0) x36.Name x36.Time x36.Len x36.Sum)) (ent_refl _) (len_ApiEvent _ hl37) (whole _ _ (len_ApiEvent _ hl37)))) hI ?_)
   have hI := hI.mono (pick2 _ _ _)
   refine oC (dS (T := 50) (b := b1) (o := 0) (v := .agg (c_ApiEvent (ApiEvent.mk x36.Kind (gt x3 0) x36.Name x36.Time x36.Len x36.Sum)).toArray) (l := c_ApiEvent (ApiEvent.mk 0 0 q8e 0 0 q8z)) (vs := c_ApiEvent (ApiEvent.mk x36.Kind (gt x3 0) x36.Name x36.Time x36.Len x36.Sum)) (L' := c_ApiEvent (ApiEvent.mk x36.Kind (gt x3 0) x36.Name x36.Time x36.Len x36.Sum)) (by kernel_rfl) ty50 hI (by kernel_rfl) (len_ApiEvent _ hl37) (by rw [(len_ApiEvent _ (by kernel_rfl))]; kernel_rfl) (ones_app _ _ (by kernel_rfl) (ones_cA _)) (lset_all _ _ (Eq.trans (len_ApiEvent _ hl37) (Eq.symm (len_ApiEvent _ (by kernel_rfl))))) ?_)
   intro w hI
   refine oD (qT (jE ?_))
   have hL73 := (ldBN ty50 (l := c_ApiEvent (ApiEvent.mk x36.Kind (gt x3 0) x36.Name x36.Time x36.Len x36.Sum)) (o := 0) (cs := c_ApiEvent (ApiEvent.mk x36.Kind (gt x3 0) x36.Name x36.Time x36.Len x36.Sum)) (ent_refl _) (len_ApiEvent _ hl37) (whole _ _ (len_ApiEvent _ hl37))) w hI
   have hI := hI.drop
   have hI := hI.drop
   have hI := hI.drop
   have e := someS h0
   subst e
   refine qK [4] (S' := [(4, pb b1)]) ?_
   exact post_ret (v := .agg (c_ApiEvent (ApiEvent.mk x36.Kind (gt x3 0) x36.Name x36.Time x36.Len x36.Sum)).toArray) (fun a ha => jU (vs := [.agg (c_ApiEvent (ApiEvent.mk x36.Kind (gt x3 0) x36.Name x36.Time x36.Len x36.Sum)).toArray]) (.cell (t := 4) (T := 50) (ad := ⟨b1, 0, none⟩) (by kernel_rfl) hL73 .nil) ha (by kernel_rfl)) ⟨rfl, hl37, hI⟩
end Go.Cen
