/- That the machine computes these: walks, printed by a program of ours. -/
import Derived.Test.YthdoklobbcedcabPx
import Derived.Test.YthdoklobbcedcabProg
set_option linter.unusedVariables false
set_option linter.unusedSimpArgs false
namespace Go.Cen
noncomputable abbrev prog := Go.Proofs.Try.prog
theorem ty3 : Ty prog 3 false 1 8 (.int .i64 0) := ⟨by kernel_rfl, by kernel_rfl⟩
theorem ty4 : Ty prog 4 false 1 1 (.bool false) := ⟨by kernel_rfl, by kernel_rfl⟩
theorem ty5 : Ty prog 5 false 1 1 (.int .u8 0) := ⟨by kernel_rfl, by kernel_rfl⟩
theorem ty9 : Ty prog 9 false 1 16 (.string ⟨#[]⟩) := ⟨by kernel_rfl, by kernel_rfl⟩
theorem ty22 : Ty prog 22 false 1 24 (.slice none 0 0) := ⟨by kernel_rfl, by kernel_rfl⟩
theorem ty23 : Ty prog 23 false 1 24 (.slice none 0 0) := ⟨by kernel_rfl, by kernel_rfl⟩
theorem ty25 : Ty prog 25 true 2 48 (.agg (([.slice none 0 0, .slice none 0 0] : List Value)).toArray) := ⟨by kernel_rfl, by kernel_rfl⟩
theorem ty28 : Ty prog 28 false 1 24 (.slice none 0 0) := ⟨by kernel_rfl, by kernel_rfl⟩
theorem ty30 : Ty prog 30 true 2 48 (.agg (([.slice none 0 0, .slice none 0 0] : List Value)).toArray) := ⟨by kernel_rfl, by kernel_rfl⟩
theorem ty36 : Ty prog 36 false 1 24 (.slice none 0 0) := ⟨by kernel_rfl, by kernel_rfl⟩
theorem ty47 : Ty prog 47 true 4 32 (.agg (([.int .i64 0, .int .i64 0, .int .i64 0, .int .i64 0] : List Value)).toArray) := ⟨by kernel_rfl, by kernel_rfl⟩
theorem ty68 : Ty prog 68 false 1 24 (.slice none 0 0) := ⟨by kernel_rfl, by kernel_rfl⟩
theorem ty69 : Ty prog 69 true 4 32 (.agg (([.int .i64 0, .int .i64 0, .int .i64 0, .int .i64 0] : List Value)).toArray) := ⟨by kernel_rfl, by kernel_rfl⟩
theorem ty77 : Ty prog 77 false 1 8 (.nilFunc) := ⟨by kernel_rfl, by kernel_rfl⟩
theorem ty79 : Ty prog 79 false 1 8 (.nilFunc) := ⟨by kernel_rfl, by kernel_rfl⟩
theorem ty113 : Ty prog 113 false 1 8 (.pointer none) := ⟨by kernel_rfl, by kernel_rfl⟩
theorem ty115 : Ty prog 115 true 2 32 (.agg (([.pointer none, .slice none 0 0] : List Value)).toArray) := ⟨by kernel_rfl, by kernel_rfl⟩
theorem ty124 : Ty prog 124 true 4 32 (.agg (List.replicate 4 (.int .i64 0 : Value)).toArray) := ⟨by kernel_rfl, by kernel_rfl⟩
theorem ty149 : Ty prog 149 true 3 32 (.agg (([.int .i64 0, .string ⟨#[]⟩, .bool false] : List Value)).toArray) := ⟨by kernel_rfl, by kernel_rfl⟩
theorem en10 : ∀ (args : Array Value) (w : World), (callFunc 10 args).run prog w = .ok (.enter 10 args) w := fun _ _ => by kernel_rfl
theorem en11 : ∀ (args : Array Value) (w : World), (callFunc 11 args).run prog w = .ok (.enter 11 args) w := fun _ _ => by kernel_rfl
theorem en12 : ∀ (args : Array Value) (w : World), (callFunc 12 args).run prog w = .ok (.enter 12 args) w := fun _ _ => by kernel_rfl
theorem en13 : ∀ (args : Array Value) (w : World), (callFunc 13 args).run prog w = .ok (.enter 13 args) w := fun _ _ => by kernel_rfl
theorem en14 : ∀ (args : Array Value) (w : World), (callFunc 14 args).run prog w = .ok (.enter 14 args) w := fun _ _ => by kernel_rfl
theorem en15 : ∀ (args : Array Value) (w : World), (callFunc 15 args).run prog w = .ok (.enter 15 args) w := fun _ _ => by kernel_rfl
theorem en16 : ∀ (args : Array Value) (w : World), (callFunc 16 args).run prog w = .ok (.enter 16 args) w := fun _ _ => by kernel_rfl
theorem en17 : ∀ (args : Array Value) (w : World), (callFunc 17 args).run prog w = .ok (.enter 17 args) w := fun _ _ => by kernel_rfl
theorem en18 : ∀ (args : Array Value) (w : World), (callFunc 18 args).run prog w = .ok (.enter 18 args) w := fun _ _ => by kernel_rfl
theorem en19 : ∀ (args : Array Value) (w : World), (callFunc 19 args).run prog w = .ok (.enter 19 args) w := fun _ _ => by kernel_rfl
theorem en20 : ∀ (args : Array Value) (w : World), (callFunc 20 args).run prog w = .ok (.enter 20 args) w := fun _ _ => by kernel_rfl
theorem en21 : ∀ (args : Array Value) (w : World), (callFunc 21 args).run prog w = .ok (.enter 21 args) w := fun _ _ => by kernel_rfl
theorem en22 : ∀ (args : Array Value) (w : World), (callFunc 22 args).run prog w = .ok (.enter 22 args) w := fun _ _ => by kernel_rfl
theorem en23 : ∀ (args : Array Value) (w : World), (callFunc 23 args).run prog w = .ok (.enter 23 args) w := fun _ _ => by kernel_rfl
theorem en24 : ∀ (args : Array Value) (w : World), (callFunc 24 args).run prog w = .ok (.enter 24 args) w := fun _ _ => by kernel_rfl
theorem en35 : ∀ (args : Array Value) (w : World), (callFunc 35 args).run prog w = .ok (.enter 35 args) w := fun _ _ => by kernel_rfl
theorem en36 : ∀ (args : Array Value) (w : World), (callFunc 36 args).run prog w = .ok (.enter 36 args) w := fun _ _ => by kernel_rfl
theorem en37 : ∀ (args : Array Value) (w : World), (callFunc 37 args).run prog w = .ok (.enter 37 args) w := fun _ _ => by kernel_rfl
theorem en38 : ∀ (args : Array Value) (w : World), (callFunc 38 args).run prog w = .ok (.enter 38 args) w := fun _ _ => by kernel_rfl
theorem en39 : ∀ (args : Array Value) (w : World), (callFunc 39 args).run prog w = .ok (.enter 39 args) w := fun _ _ => by kernel_rfl
theorem en40 : ∀ (args : Array Value) (w : World), (callFunc 40 args).run prog w = .ok (.enter 40 args) w := fun _ _ => by kernel_rfl
theorem en41 : ∀ (args : Array Value) (w : World), (callFunc 41 args).run prog w = .ok (.enter 41 args) w := fun _ _ => by kernel_rfl
theorem en42 : ∀ (args : Array Value) (w : World), (callFunc 42 args).run prog w = .ok (.enter 42 args) w := fun _ _ => by kernel_rfl
theorem en43 : ∀ (args : Array Value) (w : World), (callFunc 43 args).run prog w = .ok (.enter 43 args) w := fun _ _ => by kernel_rfl
theorem en44 : ∀ (args : Array Value) (w : World), (callFunc 44 args).run prog w = .ok (.enter 44 args) w := fun _ _ => by kernel_rfl
theorem en45 : ∀ (args : Array Value) (w : World), (callFunc 45 args).run prog w = .ok (.enter 45 args) w := fun _ _ => by kernel_rfl
theorem en46 : ∀ (args : Array Value) (w : World), (callFunc 46 args).run prog w = .ok (.enter 46 args) w := fun _ _ => by kernel_rfl
theorem en47 : ∀ (args : Array Value) (w : World), (callFunc 47 args).run prog w = .ok (.enter 47 args) w := fun _ _ => by kernel_rfl
theorem en48 : ∀ (args : Array Value) (w : World), (callFunc 48 args).run prog w = .ok (.enter 48 args) w := fun _ _ => by kernel_rfl
theorem en49 : ∀ (args : Array Value) (w : World), (callFunc 49 args).run prog w = .ok (.enter 49 args) w := fun _ _ => by kernel_rfl
theorem en50 : ∀ (args : Array Value) (w : World), (callFunc 50 args).run prog w = .ok (.enter 50 args) w := fun _ _ => by kernel_rfl
theorem en51 : ∀ (args : Array Value) (w : World), (callFunc 51 args).run prog w = .ok (.enter 51 args) w := fun _ _ => by kernel_rfl
theorem en52 : ∀ (args : Array Value) (w : World), (callFunc 52 args).run prog w = .ok (.enter 52 args) w := fun _ _ => by kernel_rfl
theorem en53 : ∀ (args : Array Value) (w : World), (callFunc 53 args).run prog w = .ok (.enter 53 args) w := fun _ _ => by kernel_rfl
theorem en54 : ∀ (args : Array Value) (w : World), (callFunc 54 args).run prog w = .ok (.enter 54 args) w := fun _ _ => by kernel_rfl
theorem en55 : ∀ (args : Array Value) (w : World), (callFunc 55 args).run prog w = .ok (.enter 55 args) w := fun _ _ => by kernel_rfl
theorem en56 : ∀ (args : Array Value) (w : World), (callFunc 56 args).run prog w = .ok (.enter 56 args) w := fun _ _ => by kernel_rfl
theorem en57 : ∀ (args : Array Value) (w : World), (callFunc 57 args).run prog w = .ok (.enter 57 args) w := fun _ _ => by kernel_rfl
theorem en58 : ∀ (args : Array Value) (w : World), (callFunc 58 args).run prog w = .ok (.enter 58 args) w := fun _ _ => by kernel_rfl
theorem en59 : ∀ (args : Array Value) (w : World), (callFunc 59 args).run prog w = .ok (.enter 59 args) w := fun _ _ => by kernel_rfl
theorem en60 : ∀ (args : Array Value) (w : World), (callFunc 60 args).run prog w = .ok (.enter 60 args) w := fun _ _ => by kernel_rfl
theorem en61 : ∀ (args : Array Value) (w : World), (callFunc 61 args).run prog w = .ok (.enter 61 args) w := fun _ _ => by kernel_rfl
theorem en62 : ∀ (args : Array Value) (w : World), (callFunc 62 args).run prog w = .ok (.enter 62 args) w := fun _ _ => by kernel_rfl
theorem en63 : ∀ (args : Array Value) (w : World), (callFunc 63 args).run prog w = .ok (.enter 63 args) w := fun _ _ => by kernel_rfl
theorem en64 : ∀ (args : Array Value) (w : World), (callFunc 64 args).run prog w = .ok (.enter 64 args) w := fun _ _ => by kernel_rfl
theorem en65 : ∀ (args : Array Value) (w : World), (callFunc 65 args).run prog w = .ok (.enter 65 args) w := fun _ _ => by kernel_rfl
theorem en66 : ∀ (args : Array Value) (w : World), (callFunc 66 args).run prog w = .ok (.enter 66 args) w := fun _ _ => by kernel_rfl
theorem en77 : ∀ (args : Array Value) (w : World), (callFunc 77 args).run prog w = .ok (.enter 77 args) w := fun _ _ => by kernel_rfl
theorem en78 : ∀ (args : Array Value) (w : World), (callFunc 78 args).run prog w = .ok (.enter 78 args) w := fun _ _ => by kernel_rfl
theorem en79 : ∀ (args : Array Value) (w : World), (callFunc 79 args).run prog w = .ok (.enter 79 args) w := fun _ _ => by kernel_rfl
theorem en80 : ∀ (args : Array Value) (w : World), (callFunc 80 args).run prog w = .ok (.enter 80 args) w := fun _ _ => by kernel_rfl
theorem en81 : ∀ (args : Array Value) (w : World), (callFunc 81 args).run prog w = .ok (.enter 81 args) w := fun _ _ => by kernel_rfl
theorem en82 : ∀ (args : Array Value) (w : World), (callFunc 82 args).run prog w = .ok (.enter 82 args) w := fun _ _ => by kernel_rfl
theorem en83 : ∀ (args : Array Value) (w : World), (callFunc 83 args).run prog w = .ok (.enter 83 args) w := fun _ _ => by kernel_rfl
theorem en84 : ∀ (args : Array Value) (w : World), (callFunc 84 args).run prog w = .ok (.enter 84 args) w := fun _ _ => by kernel_rfl
theorem en85 : ∀ (args : Array Value) (w : World), (callFunc 85 args).run prog w = .ok (.enter 85 args) w := fun _ _ => by kernel_rfl
theorem en86 : ∀ (args : Array Value) (w : World), (callFunc 86 args).run prog w = .ok (.enter 86 args) w := fun _ _ => by kernel_rfl
theorem en87 : ∀ (args : Array Value) (w : World), (callFunc 87 args).run prog w = .ok (.enter 87 args) w := fun _ _ => by kernel_rfl
theorem en88 : ∀ (args : Array Value) (w : World), (callFunc 88 args).run prog w = .ok (.enter 88 args) w := fun _ _ => by kernel_rfl
theorem en89 : ∀ (args : Array Value) (w : World), (callFunc 89 args).run prog w = .ok (.enter 89 args) w := fun _ _ => by kernel_rfl
theorem en103 : ∀ (args : Array Value) (w : World), (callFunc 103 args).run prog w = .ok (.enter 103 args) w := fun _ _ => by kernel_rfl
theorem en104 : ∀ (args : Array Value) (w : World), (callFunc 104 args).run prog w = .ok (.enter 104 args) w := fun _ _ => by kernel_rfl
theorem en105 : ∀ (args : Array Value) (w : World), (callFunc 105 args).run prog w = .ok (.enter 105 args) w := fun _ _ => by kernel_rfl
theorem en106 : ∀ (args : Array Value) (w : World), (callFunc 106 args).run prog w = .ok (.enter 106 args) w := fun _ _ => by kernel_rfl
theorem ext121 (v : Value) (w : World) : (callFunc 121 #[v]).run prog w = .ok (.value v) w := by kernel_rfl

set_option maxRecDepth 100000 in
set_option maxHeartbeats 4000000 in
/-- cenotaph/root.within -/
theorem c37 (w0 w : World) (Z : Hp) (A : HP) (hI : Inv w0 Z w A) (a0 : Int) (a1 : Int) (r : Bool) (h0 : root_within a0 a1 = some r) :
    Calls prog 37 #[.int .i64 a0, .int .i64 a1] w (fun e w' => e = .returned (.bool r) ∧ Inv w0 Z w' A) := by
  have e4 := calls_intro (R := (fun e w' => e = .returned (.bool r) ∧ Inv w0 Z w' A)) (w := w) (args := [.int .i64 a0, .int .i64 a1]) (fn := Go.Proofs.Try.f37) 12 Go.Proofs.Try.func37 (by rfl) Go.Proofs.Try.ntmps37 (by kernel_rfl)
  refine e4 ?_
  clear e4
  unfold root_within at h0
  refine CodT.seq ?_
  refine CodT.regionL [0] (by kernel_rfl) ?_
  refine OpsT.pures (r := []) [0] [0, 1] (S' := [(0, .int .i64 a0), (1, .int .i64 a1)]) (by kernel_rfl) ?_
  refine OpsT.done ?_
  refine Qn.then ?_
  obtain ⟨r1, h1, h0⟩ := bindS h0
  refine CodT.meet (fun a w => ∃ (x1 : Bool), x1 = r1 ∧ Fr 12 [(4, .bool x1)] a ∧ Inv w0 Z w A) ?_ ?_
  ·
    refine CodT.regionL [0, 1, 2, 3, 4, 5, 6, 7] (by kernel_rfl) ?_
    refine OpsT.pures (r := [3, 4, 5, 6, 7]) [0, 1, 2] [0, 1, 7] (S' := [(0, .int .i64 a0), (1, .int .i64 a1), (7, .bool (decide (a0 ≥ 0)))]) (by kernel_rfl) ?_
    by_cases hb2 : (decide (a0 ≥ 0)) = true
    · rw [if_pos hb2] at h1
      refine OpsT.keep [0, 1, 7] (S' := [(0, .int .i64 a0), (1, .int .i64 a1), (7, .bool true)]) (by simp only [hb2]; kernel_rfl) ?_
      refine OpsT.pures (r := []) [3, 4, 5, 6, 7] [4] (S' := [(4, .bool (decide (a0 ≤ a1)))]) (by kernel_rfl) ?_
      refine OpsT.done ?_
      have e := someS h1
      subst e
      exact Qn.thenJ fun a ha => ⟨decide (a0 ≤ a1), rfl, ha.keep [4] (by kernel_rfl), hI⟩
    · rw [if_neg hb2] at h1
      have hb2 : (decide (a0 ≥ 0)) = false := by simpa using hb2
      refine OpsT.keep [0, 1, 7] (S' := [(0, .int .i64 a0), (1, .int .i64 a1), (7, .bool false)]) (by simp only [hb2]; kernel_rfl) ?_
      refine OpsT.pures (r := []) [3, 4, 5, 6, 7] [4] (S' := [(4, .bool false)]) (by kernel_rfl) ?_
      refine OpsT.done ?_
      have e := someS h1
      subst e
      exact Qn.thenJ fun a ha => ⟨false, rfl, ha.keep [4] (by kernel_rfl), hI⟩
  ·
    rintro a w ⟨x1, rfl, ha, hI⟩
    try dsimp only at h0
    refine CodT.of ?_ ha
    refine CodT.ret ?_
    have e := someS h0
    subst e
    refine Qn.keep [4] (S' := [(4, .bool x1)]) (by kernel_rfl) ?_
    exact post_ret (v := .bool x1) (fun a ha => RunRes.run (vs := [.bool x1]) (.tmp (t := 4) (by kernel_rfl) .nil) ha (by kernel_rfl)) ⟨rfl, hI⟩
set_option maxRecDepth 100000 in
set_option maxHeartbeats 4000000 in
/-- cenotaph/root.Valid$1 -/
theorem c36 (w0 w : World) (Z : Hp) (A : HP) (hI : Inv w0 Z w A) (a0 : RootEntry) (r : Bool) (h0 : root_Valid_1 a0 = some r) :
    Calls prog 36 #[.agg (c_RootEntry a0).toArray] w (fun e w' => e = .returned (.bool r) ∧ Inv w0 Z w' A) := by
  have e4 := calls_intro (R := (fun e w' => e = .returned (.bool r) ∧ Inv w0 Z w' A)) (w := w) (args := [.agg (c_RootEntry a0).toArray]) (fn := Go.Proofs.Try.f36) 25 Go.Proofs.Try.func36 (by rfl) Go.Proofs.Try.ntmps36 (by kernel_rfl)
  refine e4 ?_
  clear e4
  unfold root_Valid_1 at h0
  refine CodT.seq ?_
  refine CodT.regionL [0, 1] (by kernel_rfl) ?_
  refine OpsT.cons (Does.boxL (d := 1) (T := 47) (v := .agg (c_RootEntry a0).toArray) (c_RootEntry a0) (by kernel_rfl) hI (by kernel_rfl) ?_)
  intro b1 w hI
  refine OpsT.pures (r := []) [1] [1] (S' := [(1, .pointer (some ⟨b1, 0, none⟩))]) (by kernel_rfl) ?_
  refine OpsT.done ?_
  refine Qn.then ?_
  obtain ⟨r1, h1, h0⟩ := bindS h0
  refine CodT.meet (fun a w => ∃ (x2 : Bool), x2 = r1 ∧ Fr 25 [(2, .bool x2)] a ∧ Inv w0 Z w A) ?_ ?_
  ·
    refine CodT.regionL [0, 1, 2, 3, 4, 5, 6, 7, 8, 9, 10, 11, 12, 13, 14, 15, 16, 17, 18, 19, 20, 21, 22] (by kernel_rfl) ?_
    refine OpsT.pures (r := [1, 2, 3, 4, 5, 6, 7, 8, 9, 10, 11, 12, 13, 14, 15, 16, 17, 18, 19, 20, 21, 22]) [0] [1, 3] (S' := [(1, .pointer (some ⟨b1, 0, none⟩)), (3, .pointer (some ⟨b1, 0, none⟩))]) (by kernel_rfl) ?_
    refine OpsT.cons (Does.yi (Yl.load (d := 4) (T := 3) (v := .int .i64 a0.Logic) (by kernel_rfl) (ldB ty3 (l := c_RootEntry a0) (o := 0) (v := .int .i64 a0.Logic) (ent_refl _) (by kernel_rfl))) hI ?_)
    obtain ⟨y4, hc3, h1⟩ := bindS h1
    try dsimp only at h1
    refine OpsT.cons (Does.call (d := some 5) (n := 37) (vs := [.int .i64 a0.Logic, .int .i64 1099511627776]) (by kernel_rfl) en37 (c37 w0 w _ _ hI a0.Logic 1099511627776 _ hc3) ?_)
    rintro e w ⟨rfl, hI⟩
    refine ⟨_, rfl, ?_⟩
    refine OpsT.pures (r := [5, 6, 7, 8, 9, 10, 11, 12, 13, 14, 15, 16, 17, 18, 19, 20, 21, 22]) [3, 4] [1, 7] (S' := [(1, .pointer (some ⟨b1, 0, none⟩)), (7, .bool (!y4))]) (by kernel_rfl) ?_
    by_cases hb5 : (!y4) = true
    · rw [if_pos hb5] at h1
      refine OpsT.keep [1, 7] (S' := [(1, .pointer (some ⟨b1, 0, none⟩)), (7, .bool true)]) (by simp only [hb5]; kernel_rfl) ?_
      refine OpsT.pures (r := []) [5, 6, 7, 8, 9, 10, 11, 12, 13, 14, 15, 16, 17, 18, 19, 20, 21, 22] [2] (S' := [(2, .bool true)]) (by kernel_rfl) ?_
      refine OpsT.done ?_
      have hI := hI.drop
      have e := someS h1
      subst e
      exact Qn.thenJ fun a ha => ⟨true, rfl, ha.keep [2] (by kernel_rfl), hI⟩
    · rw [if_neg hb5] at h1
      have hb5 : (!y4) = false := by simpa using hb5
      refine OpsT.keep [1, 7] (S' := [(1, .pointer (some ⟨b1, 0, none⟩)), (7, .bool false)]) (by simp only [hb5]; kernel_rfl) ?_
      refine OpsT.pures (r := [6, 7, 8, 9, 10, 11, 12, 13, 14, 15, 16, 17, 18, 19, 20, 21, 22]) [5] [1, 7, 8] (S' := [(1, .pointer (some ⟨b1, 0, none⟩)), (7, .bool false), (8, .pointer (some ⟨b1, 1, none⟩))]) (by kernel_rfl) ?_
      refine OpsT.cons (Does.yi (Yl.load (d := 9) (T := 3) (v := .int .i64 a0.Owner) (by kernel_rfl) (ldB ty3 (l := c_RootEntry a0) (o := 1) (v := .int .i64 a0.Owner) (ent_refl _) (by kernel_rfl))) hI ?_)
      obtain ⟨y7, hc6, h1⟩ := bindS h1
      try dsimp only at h1
      refine OpsT.cons (Does.call (d := some 10) (n := 37) (vs := [.int .i64 a0.Owner, .int .i64 1099511627776]) (by kernel_rfl) en37 (c37 w0 w _ _ hI a0.Owner 1099511627776 _ hc6) ?_)
      rintro e w ⟨rfl, hI⟩
      refine ⟨_, rfl, ?_⟩
      refine OpsT.pures (r := [11, 12, 13, 14, 15, 16, 17, 18, 19, 20, 21, 22]) [8, 9, 10] [1, 13] (S' := [(1, .pointer (some ⟨b1, 0, none⟩)), (13, .bool (!y7))]) (by kernel_rfl) ?_
      by_cases hb8 : (!y7) = true
      · rw [if_pos hb8] at h1
        refine OpsT.keep [1, 13] (S' := [(1, .pointer (some ⟨b1, 0, none⟩)), (13, .bool true)]) (by simp only [hb8]; kernel_rfl) ?_
        refine OpsT.pures (r := []) [11, 12, 13, 14, 15, 16, 17, 18, 19, 20, 21, 22] [2] (S' := [(2, .bool true)]) (by kernel_rfl) ?_
        refine OpsT.done ?_
        have hI := hI.drop
        have e := someS h1
        subst e
        exact Qn.thenJ fun a ha => ⟨true, rfl, ha.keep [2] (by kernel_rfl), hI⟩
      · rw [if_neg hb8] at h1
        have hb8 : (!y7) = false := by simpa using hb8
        refine OpsT.keep [1, 13] (S' := [(1, .pointer (some ⟨b1, 0, none⟩)), (13, .bool false)]) (by simp only [hb8]; kernel_rfl) ?_
        refine OpsT.pures (r := [12, 13, 14, 15, 16, 17, 18, 19, 20, 21, 22]) [11] [1, 13, 14] (S' := [(1, .pointer (some ⟨b1, 0, none⟩)), (13, .bool false), (14, .pointer (some ⟨b1, 2, none⟩))]) (by kernel_rfl) ?_
        refine OpsT.cons (Does.yi (Yl.load (d := 15) (T := 3) (v := .int .i64 a0.Block) (by kernel_rfl) (ldB ty3 (l := c_RootEntry a0) (o := 2) (v := .int .i64 a0.Block) (ent_refl _) (by kernel_rfl))) hI ?_)
        obtain ⟨y10, hc9, h1⟩ := bindS h1
        try dsimp only at h1
        refine OpsT.cons (Does.call (d := some 16) (n := 37) (vs := [.int .i64 a0.Block, .int .i64 63]) (by kernel_rfl) en37 (c37 w0 w _ _ hI a0.Block 63 _ hc9) ?_)
        rintro e w ⟨rfl, hI⟩
        refine ⟨_, rfl, ?_⟩
        refine OpsT.pures (r := [17, 18, 19, 20, 21, 22]) [14, 15, 16] [1, 19] (S' := [(1, .pointer (some ⟨b1, 0, none⟩)), (19, .bool (!y10))]) (by kernel_rfl) ?_
        by_cases hb11 : (!y10) = true
        · rw [if_pos hb11] at h1
          refine OpsT.keep [1, 19] (S' := [(1, .pointer (some ⟨b1, 0, none⟩)), (19, .bool true)]) (by simp only [hb11]; kernel_rfl) ?_
          refine OpsT.pures (r := []) [17, 18, 19, 20, 21, 22] [2] (S' := [(2, .bool true)]) (by kernel_rfl) ?_
          refine OpsT.done ?_
          have hI := hI.drop
          have e := someS h1
          subst e
          exact Qn.thenJ fun a ha => ⟨true, rfl, ha.keep [2] (by kernel_rfl), hI⟩
        · rw [if_neg hb11] at h1
          have hb11 : (!y10) = false := by simpa using hb11
          refine OpsT.keep [1, 19] (S' := [(1, .pointer (some ⟨b1, 0, none⟩)), (19, .bool false)]) (by simp only [hb11]; kernel_rfl) ?_
          refine OpsT.pures (r := [18, 19, 20, 21, 22]) [17] [19, 20] (S' := [(19, .bool false), (20, .pointer (some ⟨b1, 3, none⟩))]) (by kernel_rfl) ?_
          refine OpsT.cons (Does.yi (Yl.load (d := 21) (T := 3) (v := .int .i64 a0.At) (by kernel_rfl) (ldB ty3 (l := c_RootEntry a0) (o := 3) (v := .int .i64 a0.At) (ent_refl _) (by kernel_rfl))) hI ?_)
          obtain ⟨y13, hc12, h1⟩ := bindS h1
          try dsimp only at h1
          refine OpsT.cons (Does.call (d := some 22) (n := 37) (vs := [.int .i64 a0.At, .int .i64 31]) (by kernel_rfl) en37 (c37 w0 w _ _ hI a0.At 31 _ hc12) ?_)
          rintro e w ⟨rfl, hI⟩
          refine ⟨_, rfl, ?_⟩
          refine OpsT.pures (r := []) [20, 21, 22] [2] (S' := [(2, .bool (!y13))]) (by kernel_rfl) ?_
          refine OpsT.done ?_
          have hI := hI.drop
          have e := someS h1
          subst e
          exact Qn.thenJ fun a ha => ⟨!y13, rfl, ha.keep [2] (by kernel_rfl), hI⟩
  ·
    rintro a w ⟨x2, rfl, ha, hI⟩
    try dsimp only at h0
    refine CodT.of ?_ ha
    refine CodT.ret ?_
    have e := someS h0
    subst e
    refine Qn.keep [2] (S' := [(2, .bool x2)]) (by kernel_rfl) ?_
    exact post_ret (v := .bool x2) (fun a ha => RunRes.run (vs := [.bool x2]) (.tmp (t := 2) (by kernel_rfl) .nil) ha (by kernel_rfl)) ⟨rfl, hI⟩
set_option maxRecDepth 100000 in
set_option maxHeartbeats 4000000 in
/-- slices.IndexFunc[[]cenotaph/root.Entry,cenotaph/root.Entry] -/
theorem c65 (w0 w : World) (Z : Hp) (A : HP) (hI : Inv w0 Z w A) (A_a0 : Option Addr) (c_a0 : Nat) (a0 : (List RootEntry)) (hr_a0 : RdS Z c_RootEntry 4 A_a0 c_a0 a0) (r : Int) (h0 : slices_IndexFunc_rootEntry__root_Valid_1 a0 = some r) :
    Calls prog 65 #[.slice A_a0 a0.length c_a0, .func (.func 36) #[] #[]] w (fun e w' => e = .returned (.int .i64 r) ∧ Inv w0 Z w' A) := by
  have e4 := calls_intro (R := (fun e w' => e = .returned (.int .i64 r) ∧ Inv w0 Z w' A)) (w := w) (args := [.slice A_a0 a0.length c_a0, .func (.func 36) #[] #[]]) (fn := Go.Proofs.Try.f65) 19 Go.Proofs.Try.func65 (by rfl) Go.Proofs.Try.ntmps65 (by kernel_rfl)
  refine e4 ?_
  clear e4
  unfold slices_IndexFunc_rootEntry__root_Valid_1 at h0
  refine CodT.seq ?_
  refine CodT.regionL [0] (by kernel_rfl) ?_
  refine OpsT.pures (r := []) [0] [0, 1] (S' := [(0, .slice A_a0 a0.length c_a0), (1, .func (.func 36) #[] #[])]) (by kernel_rfl) ?_
  refine OpsT.done ?_
  refine Qn.then ?_
  refine CodT.seq ?_
  refine CodT.seq ?_
  refine CodT.regionL [0, 1, 2] (by kernel_rfl) ?_
  refine OpsT.pures (r := []) [0, 1, 2] [0, 1, 7, 8] (S' := [(0, .slice A_a0 a0.length c_a0), (1, .func (.func 36) #[] #[]), (7, .int .i64 (a0.length : Int)), (8, .int .i64 0)]) (by kernel_rfl) ?_
  refine OpsT.done ?_
  refine Qn.then ?_
  obtain ⟨r1, h1, h0⟩ := bindS h0
  refine CodT.meet1 (fun a w => .inr () = r1 ∧ Fr 19 [] a ∧ Inv w0 Z w A) ?_ ?_
  ·
    refine CodT.block ?_
    refine (fun a ha => wp_loopN (fun k a w => ∃ (x1 : Int), slices_IndexFunc_rootEntry__root_Valid_1.l0 a0 k x1 = some r1 ∧ Fr 19 [(0, .slice A_a0 a0.length c_a0), (1, .func (.func 36) #[] #[]), (7, .int .i64 (a0.length : Int)), (8, .int .i64 x1)] a ∧ Inv w0 Z w A) ?_ FU a w ⟨0, h1, ha.keep [0, 1, 7, 8] (by kernel_rfl), hI⟩)
    clear h1 hI
    rintro k a w ⟨x1, h1, ha, hI⟩
    rcases k with _ | k
    · cases h1
    simp only [slices_IndexFunc_rootEntry__root_Valid_1.l0] at h1
    refine CodT.of ?_ ha
    refine CodT.seq ?_
    refine CodT.regionL [0] (by kernel_rfl) ?_
    refine OpsT.pures (r := []) [0] [0, 1, 7, 8, 9] (S' := [(0, .slice A_a0 a0.length c_a0), (1, .func (.func 36) #[] #[]), (7, .int .i64 (a0.length : Int)), (8, .int .i64 x1), (9, .bool (decide (x1 < (a0.length : Int))))]) (by kernel_rfl) ?_
    refine OpsT.done ?_
    refine Qn.then ?_
    refine CodT.seq ?_
    by_cases hb2 : (decide (x1 < (a0.length : Int))) = true
    · rw [if_pos hb2] at h1
      refine CodT.yes' (b := decide (x1 < (a0.length : Int))) (by kernel_rfl) hb2 ?_
      refine CodT.skip ?_
      refine Qn.then ?_
      refine CodT.seq ?_
      refine CodT.block ?_
      refine CodT.seq ?_
      refine CodT.regionL [0, 1] (by kernel_rfl) ?_
      refine OpsT.pures (r := []) [0, 1] [0, 1, 5, 7, 8] (S' := [(0, .slice A_a0 a0.length c_a0), (1, .func (.func 36) #[] #[]), (5, .int .i64 x1), (7, .int .i64 (a0.length : Int)), (8, .int .i64 x1)]) (by kernel_rfl) ?_
      refine OpsT.done ?_
      refine Qn.then ?_
      refine CodT.seq ?_
      refine CodT.regionL [0, 1, 2, 3, 4, 5] (by kernel_rfl) ?_
      refine OpsT.pures (r := [3, 4, 5]) [0, 1, 2] [0, 1, 5, 7, 8, 11, 12, 13] (S' := [(0, .slice A_a0 a0.length c_a0), (1, .func (.func 36) #[] #[]), (5, .int .i64 x1), (7, .int .i64 (a0.length : Int)), (8, .int .i64 x1), (11, .func (.func 36) #[] #[]), (12, .slice A_a0 a0.length c_a0), (13, .int .i64 x1)]) (by kernel_rfl) ?_
      obtain ⟨hg3, h1⟩ := guardS h1
      obtain ⟨g4, o8, hA5, hr6, hl7⟩ := RdS.get hr_a0 hg3.1 hg3.2
      refine OpsT.cons (Does.yi (Yl.indexSlice (d := 14) (T := 22) (cc := c_a0) (k := .i64) (j := x1) (g := g4) (o := o8) (by kernel_rfl) Go.Proofs.Try.underlying22 ty47 hA5 hg3.1 hg3.2) hI ?_)
      refine OpsT.cons (Does.yi (Yl.load (d := 15) (T := 47) (v := .agg (c_RootEntry (gt a0 x1)).toArray) (by kernel_rfl) (ldRN ty47 (cs := c_RootEntry (gt a0 x1)) 0 (fun w hC => hr6 w0 w _ hC) hl7 (whole _ _ hl7))) hI ?_)
      obtain ⟨y10, hc9, h1⟩ := bindS h1
      try dsimp only at h1
      refine OpsT.cons (Does.call (d := some 16) (n := 36) (vs := [.agg (c_RootEntry (gt a0 x1)).toArray]) (by kernel_rfl) en36 (c36 w0 w _ _ hI (gt a0 x1) _ hc9) ?_)
      rintro e w ⟨rfl, hI⟩
      refine ⟨_, rfl, ?_⟩
      refine OpsT.done ?_
      refine Qn.then ?_
      by_cases hb11 : y10 = true
      · rw [if_pos hb11] at h1
        refine CodT.yes' (b := y10) (by kernel_rfl) hb11 ?_
        refine CodT.seq ?_
        refine CodT.regionL [0, 1] (by kernel_rfl) ?_
        refine OpsT.pures (r := []) [0, 1] [4] (S' := [(4, .int .i64 x1)]) (by kernel_rfl) ?_
        refine OpsT.done ?_
        refine Qn.then ?_
        refine CodT.ret ?_
        refine Qn.block_ret ?_
        refine Qn.ret_then ?_
        refine Qn.ret_then ?_
        refine Qn.block_ret ?_
        refine Qn.ret_then ?_
        refine Qn.ret_then ?_
        have e := someS h1
        subst e
        try dsimp only at h0
        have e := someS h0
        subst e
        refine Qn.keep [4] (S' := [(4, .int .i64 x1)]) (by kernel_rfl) ?_
        exact post_ret (v := .int .i64 x1) (fun a ha => RunRes.run (vs := [.int .i64 x1]) (.tmp (t := 4) (by kernel_rfl) .nil) ha (by kernel_rfl)) ⟨rfl, hI⟩
      · rw [if_neg hb11] at h1
        refine CodT.no' (b := y10) (by kernel_rfl) (by simpa using hb11) ?_
        refine CodT.skip ?_
        refine Qn.block_normal ?_
        refine Qn.then ?_
        refine CodT.regionL [0, 1] (by kernel_rfl) ?_
        refine OpsT.pures (r := []) [0, 1] [0, 1, 7, 8] (S' := [(0, .slice A_a0 a0.length c_a0), (1, .func (.func 36) #[] #[]), (7, .int .i64 (a0.length : Int)), (8, .int .i64 (wi64 (x1 + 1)))]) (by kernel_rfl) ?_
        refine OpsT.done ?_
        exact Qn.thenJ fun a ha => ⟨k, Nat.lt_succ_self k, wi64 (x1 + 1), h1, ha.keep [0, 1, 7, 8] (by kernel_rfl), hI⟩
    · rw [if_neg hb2] at h1
      refine CodT.no' (b := decide (x1 < (a0.length : Int))) (by kernel_rfl) (by simpa using hb2) ?_
      refine CodT.exit ?_
      refine Qn.exit_then ?_
      refine Qn.exit_then ?_
      refine Qn.block ?_
      have e := someS h1
      subst e
      exact Qn.thenJ fun a ha => ⟨rfl, ha.keep [] (by kernel_rfl), hI⟩
  ·
    rintro a w ⟨rfl, ha, hI⟩
    try dsimp only at h0
    refine Qn.of ?_ ha
    refine Qn.then ?_
    refine CodT.seq ?_
    refine CodT.regionL [0] (by kernel_rfl) ?_
    refine OpsT.pures (r := []) [0] [4] (S' := [(4, .int .i64 (-1))]) (by kernel_rfl) ?_
    refine OpsT.done ?_
    refine Qn.then ?_
    refine CodT.ret ?_
    have e := someS h0
    subst e
    refine Qn.keep [4] (S' := [(4, .int .i64 (-1))]) (by kernel_rfl) ?_
    exact post_ret (v := .int .i64 (-1)) (fun a ha => RunRes.run (vs := [.int .i64 (-1)]) (.tmp (t := 4) (by kernel_rfl) .nil) ha (by kernel_rfl)) ⟨rfl, hI⟩
set_option maxRecDepth 100000 in
set_option maxHeartbeats 4000000 in
/-- slices.ContainsFunc[[]cenotaph/root.Entry,cenotaph/root.Entry] -/
theorem c39 (w0 w : World) (Z : Hp) (A : HP) (hI : Inv w0 Z w A) (A_a0 : Option Addr) (c_a0 : Nat) (a0 : (List RootEntry)) (hr_a0 : RdS Z c_RootEntry 4 A_a0 c_a0 a0) (r : Bool) (h0 : slices_ContainsFunc_rootEntry__root_Valid_1 a0 = some r) :
    Calls prog 39 #[.slice A_a0 a0.length c_a0, .func (.func 36) #[] #[]] w (fun e w' => e = .returned (.bool r) ∧ Inv w0 Z w' A) := by
  have e4 := calls_intro (R := (fun e w' => e = .returned (.bool r) ∧ Inv w0 Z w' A)) (w := w) (args := [.slice A_a0 a0.length c_a0, .func (.func 36) #[] #[]]) (fn := Go.Proofs.Try.f39) 9 Go.Proofs.Try.func39 (by rfl) Go.Proofs.Try.ntmps39 (by kernel_rfl)
  refine e4 ?_
  clear e4
  unfold slices_ContainsFunc_rootEntry__root_Valid_1 at h0
  refine CodT.seq ?_
  refine CodT.regionL [0] (by kernel_rfl) ?_
  refine OpsT.pures (r := []) [0] [0, 1] (S' := [(0, .slice A_a0 a0.length c_a0), (1, .func (.func 36) #[] #[])]) (by kernel_rfl) ?_
  refine OpsT.done ?_
  refine Qn.then ?_
  refine CodT.seq ?_
  refine CodT.regionL [0, 1, 2, 3, 4] (by kernel_rfl) ?_
  refine OpsT.pures (r := [2, 3, 4]) [0, 1] [5, 6] (S' := [(5, .slice A_a0 a0.length c_a0), (6, .func (.func 36) #[] #[])]) (by kernel_rfl) ?_
  obtain ⟨y2, hc1, h0⟩ := bindS h0
  try dsimp only at h0
  refine OpsT.cons (Does.call (d := some 7) (n := 65) (vs := [.slice A_a0 a0.length c_a0, .func (.func 36) #[] #[]]) (by kernel_rfl) en65 (c65 w0 w _ _ hI A_a0 c_a0 a0 hr_a0 _ hc1) ?_)
  rintro e w ⟨rfl, hI⟩
  refine ⟨_, rfl, ?_⟩
  refine OpsT.pures (r := []) [3, 4] [4] (S' := [(4, .bool (decide (y2 ≥ 0)))]) (by kernel_rfl) ?_
  refine OpsT.done ?_
  refine Qn.then ?_
  refine CodT.ret ?_
  have e := someS h0
  subst e
  refine Qn.keep [4] (S' := [(4, .bool (decide (y2 ≥ 0)))]) (by kernel_rfl) ?_
  exact post_ret (v := .bool (decide (y2 ≥ 0))) (fun a ha => RunRes.run (vs := [.bool (decide (y2 ≥ 0))]) (.tmp (t := 4) (by kernel_rfl) .nil) ha (by kernel_rfl)) ⟨rfl, hI⟩
set_option maxRecDepth 100000 in
set_option maxHeartbeats 4000000 in
/-- cenotaph/root.Valid$2 -/
theorem c38 (w0 w : World) (Z : Hp) (A : HP) (hI : Inv w0 Z w A) (a0 : Int) (r : Bool) (h0 : root_Valid_2 a0 = some r) :
    Calls prog 38 #[.int .i64 a0] w (fun e w' => e = .returned (.bool r) ∧ Inv w0 Z w' A) := by
  have e4 := calls_intro (R := (fun e w' => e = .returned (.bool r) ∧ Inv w0 Z w' A)) (w := w) (args := [.int .i64 a0]) (fn := Go.Proofs.Try.f38) 6 Go.Proofs.Try.func38 (by rfl) Go.Proofs.Try.ntmps38 (by kernel_rfl)
  refine e4 ?_
  clear e4
  unfold root_Valid_2 at h0
  refine CodT.seq ?_
  refine CodT.regionL [0] (by kernel_rfl) ?_
  refine OpsT.pures (r := []) [0] [0] (S' := [(0, .int .i64 a0)]) (by kernel_rfl) ?_
  refine OpsT.done ?_
  refine Qn.then ?_
  refine CodT.seq ?_
  refine CodT.regionL [0, 1, 2, 3] (by kernel_rfl) ?_
  refine OpsT.pures (r := [1, 2, 3]) [0] [3] (S' := [(3, .int .i64 a0)]) (by kernel_rfl) ?_
  obtain ⟨y2, hc1, h0⟩ := bindS h0
  try dsimp only at h0
  refine OpsT.cons (Does.call (d := some 4) (n := 37) (vs := [.int .i64 a0, .int .i64 1099511627776]) (by kernel_rfl) en37 (c37 w0 w _ _ hI a0 1099511627776 _ hc1) ?_)
  rintro e w ⟨rfl, hI⟩
  refine ⟨_, rfl, ?_⟩
  refine OpsT.pures (r := []) [2, 3] [2] (S' := [(2, .bool (!y2))]) (by kernel_rfl) ?_
  refine OpsT.done ?_
  refine Qn.then ?_
  refine CodT.ret ?_
  have e := someS h0
  subst e
  refine Qn.keep [2] (S' := [(2, .bool (!y2))]) (by kernel_rfl) ?_
  exact post_ret (v := .bool (!y2)) (fun a ha => RunRes.run (vs := [.bool (!y2)]) (.tmp (t := 2) (by kernel_rfl) .nil) ha (by kernel_rfl)) ⟨rfl, hI⟩
set_option maxRecDepth 100000 in
set_option maxHeartbeats 4000000 in
/-- slices.IndexFunc[[]int,int] -/
theorem c77 (w0 w : World) (Z : Hp) (A : HP) (hI : Inv w0 Z w A) (A_a0 : Option Addr) (c_a0 : Nat) (a0 : (List Int)) (hr_a0 : RdS Z (cI .i64) 1 A_a0 c_a0 a0) (r : Int) (h0 : slices_IndexFunc_int__root_Valid_2 a0 = some r) :
    Calls prog 77 #[.slice A_a0 a0.length c_a0, .func (.func 38) #[] #[]] w (fun e w' => e = .returned (.int .i64 r) ∧ Inv w0 Z w' A) := by
  have e4 := calls_intro (R := (fun e w' => e = .returned (.int .i64 r) ∧ Inv w0 Z w' A)) (w := w) (args := [.slice A_a0 a0.length c_a0, .func (.func 38) #[] #[]]) (fn := Go.Proofs.Try.f77) 19 Go.Proofs.Try.func77 (by rfl) Go.Proofs.Try.ntmps77 (by kernel_rfl)
  refine e4 ?_
  clear e4
  unfold slices_IndexFunc_int__root_Valid_2 at h0
  refine CodT.seq ?_
  refine CodT.regionL [0] (by kernel_rfl) ?_
  refine OpsT.pures (r := []) [0] [0, 1] (S' := [(0, .slice A_a0 a0.length c_a0), (1, .func (.func 38) #[] #[])]) (by kernel_rfl) ?_
  refine OpsT.done ?_
  refine Qn.then ?_
  refine CodT.seq ?_
  refine CodT.seq ?_
  refine CodT.regionL [0, 1, 2] (by kernel_rfl) ?_
  refine OpsT.pures (r := []) [0, 1, 2] [0, 1, 7, 8] (S' := [(0, .slice A_a0 a0.length c_a0), (1, .func (.func 38) #[] #[]), (7, .int .i64 (a0.length : Int)), (8, .int .i64 0)]) (by kernel_rfl) ?_
  refine OpsT.done ?_
  refine Qn.then ?_
  obtain ⟨r1, h1, h0⟩ := bindS h0
  refine CodT.meet1 (fun a w => .inr () = r1 ∧ Fr 19 [] a ∧ Inv w0 Z w A) ?_ ?_
  ·
    refine CodT.block ?_
    refine (fun a ha => wp_loopN (fun k a w => ∃ (x1 : Int), slices_IndexFunc_int__root_Valid_2.l0 a0 k x1 = some r1 ∧ Fr 19 [(0, .slice A_a0 a0.length c_a0), (1, .func (.func 38) #[] #[]), (7, .int .i64 (a0.length : Int)), (8, .int .i64 x1)] a ∧ Inv w0 Z w A) ?_ FU a w ⟨0, h1, ha.keep [0, 1, 7, 8] (by kernel_rfl), hI⟩)
    clear h1 hI
    rintro k a w ⟨x1, h1, ha, hI⟩
    rcases k with _ | k
    · cases h1
    simp only [slices_IndexFunc_int__root_Valid_2.l0] at h1
    refine CodT.of ?_ ha
    refine CodT.seq ?_
    refine CodT.regionL [0] (by kernel_rfl) ?_
    refine OpsT.pures (r := []) [0] [0, 1, 7, 8, 9] (S' := [(0, .slice A_a0 a0.length c_a0), (1, .func (.func 38) #[] #[]), (7, .int .i64 (a0.length : Int)), (8, .int .i64 x1), (9, .bool (decide (x1 < (a0.length : Int))))]) (by kernel_rfl) ?_
    refine OpsT.done ?_
    refine Qn.then ?_
    refine CodT.seq ?_
    by_cases hb2 : (decide (x1 < (a0.length : Int))) = true
    · rw [if_pos hb2] at h1
      refine CodT.yes' (b := decide (x1 < (a0.length : Int))) (by kernel_rfl) hb2 ?_
      refine CodT.skip ?_
      refine Qn.then ?_
      refine CodT.seq ?_
      refine CodT.block ?_
      refine CodT.seq ?_
      refine CodT.regionL [0, 1] (by kernel_rfl) ?_
      refine OpsT.pures (r := []) [0, 1] [0, 1, 5, 7, 8] (S' := [(0, .slice A_a0 a0.length c_a0), (1, .func (.func 38) #[] #[]), (5, .int .i64 x1), (7, .int .i64 (a0.length : Int)), (8, .int .i64 x1)]) (by kernel_rfl) ?_
      refine OpsT.done ?_
      refine Qn.then ?_
      refine CodT.seq ?_
      refine CodT.regionL [0, 1, 2, 3, 4, 5] (by kernel_rfl) ?_
      refine OpsT.pures (r := [3, 4, 5]) [0, 1, 2] [0, 1, 5, 7, 8, 11, 12, 13] (S' := [(0, .slice A_a0 a0.length c_a0), (1, .func (.func 38) #[] #[]), (5, .int .i64 x1), (7, .int .i64 (a0.length : Int)), (8, .int .i64 x1), (11, .func (.func 38) #[] #[]), (12, .slice A_a0 a0.length c_a0), (13, .int .i64 x1)]) (by kernel_rfl) ?_
      obtain ⟨hg3, h1⟩ := guardS h1
      obtain ⟨g4, o8, hA5, hr6, hl7⟩ := RdS.get hr_a0 hg3.1 hg3.2
      refine OpsT.cons (Does.yi (Yl.indexSlice (d := 14) (T := 23) (cc := c_a0) (k := .i64) (j := x1) (g := g4) (o := o8) (by kernel_rfl) Go.Proofs.Try.underlying23 ty3 hA5 hg3.1 hg3.2) hI ?_)
      refine OpsT.cons (Does.yi (Yl.load (d := 15) (T := 3) (v := .int .i64 (gt a0 x1)) (by kernel_rfl) (ldR ty3 (v := .int .i64 (gt a0 x1)) 0 (fun w hC => hr6 w0 w _ hC) (by kernel_rfl))) hI ?_)
      obtain ⟨y10, hc9, h1⟩ := bindS h1
      try dsimp only at h1
      refine OpsT.cons (Does.call (d := some 16) (n := 38) (vs := [.int .i64 (gt a0 x1)]) (by kernel_rfl) en38 (c38 w0 w _ _ hI (gt a0 x1) _ hc9) ?_)
      rintro e w ⟨rfl, hI⟩
      refine ⟨_, rfl, ?_⟩
      refine OpsT.done ?_
      refine Qn.then ?_
      by_cases hb11 : y10 = true
      · rw [if_pos hb11] at h1
        refine CodT.yes' (b := y10) (by kernel_rfl) hb11 ?_
        refine CodT.seq ?_
        refine CodT.regionL [0, 1] (by kernel_rfl) ?_
        refine OpsT.pures (r := []) [0, 1] [4] (S' := [(4, .int .i64 x1)]) (by kernel_rfl) ?_
        refine OpsT.done ?_
        refine Qn.then ?_
        refine CodT.ret ?_
        refine Qn.block_ret ?_
        refine Qn.ret_then ?_
        refine Qn.ret_then ?_
        refine Qn.block_ret ?_
        refine Qn.ret_then ?_
        refine Qn.ret_then ?_
        have e := someS h1
        subst e
        try dsimp only at h0
        have e := someS h0
        subst e
        refine Qn.keep [4] (S' := [(4, .int .i64 x1)]) (by kernel_rfl) ?_
        exact post_ret (v := .int .i64 x1) (fun a ha => RunRes.run (vs := [.int .i64 x1]) (.tmp (t := 4) (by kernel_rfl) .nil) ha (by kernel_rfl)) ⟨rfl, hI⟩
      · rw [if_neg hb11] at h1
        refine CodT.no' (b := y10) (by kernel_rfl) (by simpa using hb11) ?_
        refine CodT.skip ?_
        refine Qn.block_normal ?_
        refine Qn.then ?_
        refine CodT.regionL [0, 1] (by kernel_rfl) ?_
        refine OpsT.pures (r := []) [0, 1] [0, 1, 7, 8] (S' := [(0, .slice A_a0 a0.length c_a0), (1, .func (.func 38) #[] #[]), (7, .int .i64 (a0.length : Int)), (8, .int .i64 (wi64 (x1 + 1)))]) (by kernel_rfl) ?_
        refine OpsT.done ?_
        exact Qn.thenJ fun a ha => ⟨k, Nat.lt_succ_self k, wi64 (x1 + 1), h1, ha.keep [0, 1, 7, 8] (by kernel_rfl), hI⟩
    · rw [if_neg hb2] at h1
      refine CodT.no' (b := decide (x1 < (a0.length : Int))) (by kernel_rfl) (by simpa using hb2) ?_
      refine CodT.exit ?_
      refine Qn.exit_then ?_
      refine Qn.exit_then ?_
      refine Qn.block ?_
      have e := someS h1
      subst e
      exact Qn.thenJ fun a ha => ⟨rfl, ha.keep [] (by kernel_rfl), hI⟩
  ·
    rintro a w ⟨rfl, ha, hI⟩
    try dsimp only at h0
    refine Qn.of ?_ ha
    refine Qn.then ?_
    refine CodT.seq ?_
    refine CodT.regionL [0] (by kernel_rfl) ?_
    refine OpsT.pures (r := []) [0] [4] (S' := [(4, .int .i64 (-1))]) (by kernel_rfl) ?_
    refine OpsT.done ?_
    refine Qn.then ?_
    refine CodT.ret ?_
    have e := someS h0
    subst e
    refine Qn.keep [4] (S' := [(4, .int .i64 (-1))]) (by kernel_rfl) ?_
    exact post_ret (v := .int .i64 (-1)) (fun a ha => RunRes.run (vs := [.int .i64 (-1)]) (.tmp (t := 4) (by kernel_rfl) .nil) ha (by kernel_rfl)) ⟨rfl, hI⟩
set_option maxRecDepth 100000 in
set_option maxHeartbeats 4000000 in
/-- slices.ContainsFunc[[]int,int] -/
theorem c40 (w0 w : World) (Z : Hp) (A : HP) (hI : Inv w0 Z w A) (A_a0 : Option Addr) (c_a0 : Nat) (a0 : (List Int)) (hr_a0 : RdS Z (cI .i64) 1 A_a0 c_a0 a0) (r : Bool) (h0 : slices_ContainsFunc_int__root_Valid_2 a0 = some r) :
    Calls prog 40 #[.slice A_a0 a0.length c_a0, .func (.func 38) #[] #[]] w (fun e w' => e = .returned (.bool r) ∧ Inv w0 Z w' A) := by
  have e4 := calls_intro (R := (fun e w' => e = .returned (.bool r) ∧ Inv w0 Z w' A)) (w := w) (args := [.slice A_a0 a0.length c_a0, .func (.func 38) #[] #[]]) (fn := Go.Proofs.Try.f40) 9 Go.Proofs.Try.func40 (by rfl) Go.Proofs.Try.ntmps40 (by kernel_rfl)
  refine e4 ?_
  clear e4
  unfold slices_ContainsFunc_int__root_Valid_2 at h0
  refine CodT.seq ?_
  refine CodT.regionL [0] (by kernel_rfl) ?_
  refine OpsT.pures (r := []) [0] [0, 1] (S' := [(0, .slice A_a0 a0.length c_a0), (1, .func (.func 38) #[] #[])]) (by kernel_rfl) ?_
  refine OpsT.done ?_
  refine Qn.then ?_
  refine CodT.seq ?_
  refine CodT.regionL [0, 1, 2, 3, 4] (by kernel_rfl) ?_
  refine OpsT.pures (r := [2, 3, 4]) [0, 1] [5, 6] (S' := [(5, .slice A_a0 a0.length c_a0), (6, .func (.func 38) #[] #[])]) (by kernel_rfl) ?_
  obtain ⟨y2, hc1, h0⟩ := bindS h0
  try dsimp only at h0
  refine OpsT.cons (Does.call (d := some 7) (n := 77) (vs := [.slice A_a0 a0.length c_a0, .func (.func 38) #[] #[]]) (by kernel_rfl) en77 (c77 w0 w _ _ hI A_a0 c_a0 a0 hr_a0 _ hc1) ?_)
  rintro e w ⟨rfl, hI⟩
  refine ⟨_, rfl, ?_⟩
  refine OpsT.pures (r := []) [3, 4] [4] (S' := [(4, .bool (decide (y2 ≥ 0)))]) (by kernel_rfl) ?_
  refine OpsT.done ?_
  refine Qn.then ?_
  refine CodT.ret ?_
  have e := someS h0
  subst e
  refine Qn.keep [4] (S' := [(4, .bool (decide (y2 ≥ 0)))]) (by kernel_rfl) ?_
  exact post_ret (v := .bool (decide (y2 ≥ 0))) (fun a ha => RunRes.run (vs := [.bool (decide (y2 ≥ 0))]) (.tmp (t := 4) (by kernel_rfl) .nil) ha (by kernel_rfl)) ⟨rfl, hI⟩
set_option maxRecDepth 100000 in
set_option maxHeartbeats 4000000 in
/-- cenotaph/root.logic -/
theorem c42 (w0 w : World) (Z : Hp) (A : HP) (hI : Inv w0 Z w A) (a0 : RootEntry) (r : Int) (h0 : root_logic a0 = some r) :
    Calls prog 42 #[.agg (c_RootEntry a0).toArray] w (fun e w' => e = .returned (.int .i64 r) ∧ Inv w0 Z w' A) := by
  have e4 := calls_intro (R := (fun e w' => e = .returned (.int .i64 r) ∧ Inv w0 Z w' A)) (w := w) (args := [.agg (c_RootEntry a0).toArray]) (fn := Go.Proofs.Try.f42) 5 Go.Proofs.Try.func42 (by rfl) Go.Proofs.Try.ntmps42 (by kernel_rfl)
  refine e4 ?_
  clear e4
  unfold root_logic at h0
  refine CodT.seq ?_
  refine CodT.regionL [0, 1] (by kernel_rfl) ?_
  refine OpsT.cons (Does.boxL (d := 1) (T := 47) (v := .agg (c_RootEntry a0).toArray) (c_RootEntry a0) (by kernel_rfl) hI (by kernel_rfl) ?_)
  intro b1 w hI
  refine OpsT.pures (r := []) [1] [1] (S' := [(1, .pointer (some ⟨b1, 0, none⟩))]) (by kernel_rfl) ?_
  refine OpsT.done ?_
  refine Qn.then ?_
  refine CodT.seq ?_
  refine CodT.regionL [0, 1, 2] (by kernel_rfl) ?_
  refine OpsT.pures (r := [1, 2]) [0] [3] (S' := [(3, .pointer (some ⟨b1, 0, none⟩))]) (by kernel_rfl) ?_
  refine OpsT.cons (Does.yi (Yl.load (d := 4) (T := 3) (v := .int .i64 a0.Logic) (by kernel_rfl) (ldB ty3 (l := c_RootEntry a0) (o := 0) (v := .int .i64 a0.Logic) (ent_refl _) (by kernel_rfl))) hI ?_)
  refine OpsT.pures (r := []) [2] [2] (S' := [(2, .int .i64 a0.Logic)]) (by kernel_rfl) ?_
  refine OpsT.done ?_
  refine Qn.then ?_
  refine CodT.ret ?_
  have hI := hI.drop
  have e := someS h0
  subst e
  refine Qn.keep [2] (S' := [(2, .int .i64 a0.Logic)]) (by kernel_rfl) ?_
  exact post_ret (v := .int .i64 a0.Logic) (fun a ha => RunRes.run (vs := [.int .i64 a0.Logic]) (.tmp (t := 2) (by kernel_rfl) .nil) ha (by kernel_rfl)) ⟨rfl, hI⟩
set_option maxRecDepth 100000 in
set_option maxHeartbeats 4000000 in
/-- cenotaph/root.rising[cenotaph/root.Entry] -/
theorem c41 (w0 w : World) (Z : Hp) (A : HP) (hI : Inv w0 Z w A) (A_a0 : Option Addr) (c_a0 : Nat) (a0 : (List RootEntry)) (hr_a0 : RdS Z c_RootEntry 4 A_a0 c_a0 a0) (r : Bool) (h0 : root_rising_rootEntry__root_logic a0 = some r) :
    Calls prog 41 #[.slice A_a0 a0.length c_a0, .func (.func 42) #[] #[]] w (fun e w' => e = .returned (.bool r) ∧ Inv w0 Z w' A) := by
  have e4 := calls_intro (R := (fun e w' => e = .returned (.bool r) ∧ Inv w0 Z w' A)) (w := w) (args := [.slice A_a0 a0.length c_a0, .func (.func 42) #[] #[]]) (fn := Go.Proofs.Try.f41) 30 Go.Proofs.Try.func41 (by rfl) Go.Proofs.Try.ntmps41 (by kernel_rfl)
  refine e4 ?_
  clear e4
  unfold root_rising_rootEntry__root_logic at h0
  refine CodT.seq ?_
  refine CodT.regionL [0] (by kernel_rfl) ?_
  refine OpsT.pures (r := []) [0] [0, 1] (S' := [(0, .slice A_a0 a0.length c_a0), (1, .func (.func 42) #[] #[])]) (by kernel_rfl) ?_
  refine OpsT.done ?_
  refine Qn.then ?_
  refine CodT.seq ?_
  refine CodT.seq ?_
  refine CodT.regionL [0, 1, 2] (by kernel_rfl) ?_
  refine OpsT.pures (r := []) [0, 1, 2] [0, 1, 7, 8] (S' := [(0, .slice A_a0 a0.length c_a0), (1, .func (.func 42) #[] #[]), (7, .int .i64 (a0.length : Int)), (8, .int .i64 0)]) (by kernel_rfl) ?_
  refine OpsT.done ?_
  refine Qn.then ?_
  obtain ⟨r1, h1, h0⟩ := bindS h0
  refine CodT.meet1 (fun a w => .inr () = r1 ∧ Fr 30 [] a ∧ Inv w0 Z w A) ?_ ?_
  ·
    refine CodT.block ?_
    refine (fun a ha => wp_loopN (fun k a w => ∃ (x1 : Int), root_rising_rootEntry__root_logic.l0 a0 k x1 = some r1 ∧ Fr 30 [(0, .slice A_a0 a0.length c_a0), (1, .func (.func 42) #[] #[]), (7, .int .i64 (a0.length : Int)), (8, .int .i64 x1)] a ∧ Inv w0 Z w A) ?_ FU a w ⟨0, h1, ha.keep [0, 1, 7, 8] (by kernel_rfl), hI⟩)
    clear h1 hI
    rintro k a w ⟨x1, h1, ha, hI⟩
    rcases k with _ | k
    · cases h1
    simp only [root_rising_rootEntry__root_logic.l0] at h1
    refine CodT.of ?_ ha
    refine CodT.seq ?_
    refine CodT.regionL [0] (by kernel_rfl) ?_
    refine OpsT.pures (r := []) [0] [0, 1, 7, 8, 9] (S' := [(0, .slice A_a0 a0.length c_a0), (1, .func (.func 42) #[] #[]), (7, .int .i64 (a0.length : Int)), (8, .int .i64 x1), (9, .bool (decide (x1 < (a0.length : Int))))]) (by kernel_rfl) ?_
    refine OpsT.done ?_
    refine Qn.then ?_
    refine CodT.seq ?_
    by_cases hb2 : (decide (x1 < (a0.length : Int))) = true
    · rw [if_pos hb2] at h1
      refine CodT.yes' (b := decide (x1 < (a0.length : Int))) (by kernel_rfl) hb2 ?_
      refine CodT.skip ?_
      refine Qn.then ?_
      refine CodT.seq ?_
      refine CodT.block ?_
      refine CodT.seq ?_
      refine CodT.regionL [0, 1] (by kernel_rfl) ?_
      refine OpsT.pures (r := []) [0, 1] [0, 1, 5, 7, 8] (S' := [(0, .slice A_a0 a0.length c_a0), (1, .func (.func 42) #[] #[]), (5, .int .i64 x1), (7, .int .i64 (a0.length : Int)), (8, .int .i64 x1)]) (by kernel_rfl) ?_
      refine OpsT.done ?_
      refine Qn.then ?_
      obtain ⟨r2, h2, h1⟩ := bindS h1
      refine CodT.meet (fun a w => ∃ (x3 : Bool), x3 = r2 ∧ Fr 30 [(0, .slice A_a0 a0.length c_a0), (1, .func (.func 42) #[] #[]), (7, .int .i64 (a0.length : Int)), (8, .int .i64 x1), (28, .bool x3)] a ∧ Inv w0 Z w A) ?_ ?_
      ·
        refine CodT.drawI (n := 18) [] (by kernel_rfl) (by kernel_rfl) hI ?_
        intro w hI
        refine GmT.p' 0 11 (.int .i64 x1) (by kernel_rfl) (by kernel_rfl) ?_
        refine GmT.p' 1 12 (.bool (decide (x1 > 0))) (by kernel_rfl) (by kernel_rfl) ?_
        refine GmT.p' 2 13 (.bool (decide (x1 > 0))) (by kernel_rfl) (by kernel_rfl) ?_
        by_cases hb4 : (decide (x1 > 0)) = true
        · rw [if_pos hb4] at h2
          refine GmT.keep [0, 1, 5, 7, 8, 13] (S' := [(0, .slice A_a0 a0.length c_a0), (1, .func (.func 42) #[] #[]), (5, .int .i64 x1), (7, .int .i64 (a0.length : Int)), (8, .int .i64 x1), (13, .bool true)]) (by simp only [hb4]; kernel_rfl) ?_
          refine GmT.p' 3 14 (.func (.func 42) #[] #[]) (by kernel_rfl) (by kernel_rfl) ?_
          refine GmT.p' 4 15 (.slice A_a0 a0.length c_a0) (by kernel_rfl) (by kernel_rfl) ?_
          refine GmT.p' 5 16 (.int .i64 x1) (by kernel_rfl) (by kernel_rfl) ?_
          refine GmT.p' 6 17 (.int .i64 (wi64 (x1 - 1))) (by kernel_rfl) (by kernel_rfl) ?_
          refine GmT.p' 10 21 (.func (.func 42) #[] #[]) (by kernel_rfl) (by kernel_rfl) ?_
          refine GmT.p' 11 22 (.slice A_a0 a0.length c_a0) (by kernel_rfl) (by kernel_rfl) ?_
          refine GmT.p' 12 23 (.int .i64 x1) (by kernel_rfl) (by kernel_rfl) ?_
          obtain ⟨hg5, h2⟩ := guardS h2
          obtain ⟨g6, o10, hA7, hr8, hl9⟩ := RdS.get hr_a0 hg5.1 hg5.2
          refine GmT.r (i := 7) 2 (by kernel_rfl) (by kernel_rfl) (Yl.indexSlice (d := 18) (T := 22) (cc := c_a0) (k := .i64) (j := wi64 (x1 - 1)) (g := g6) (o := o10) (by kernel_rfl) Go.Proofs.Try.underlying22 ty47 hA7 hg5.1 hg5.2) hI ?_
          refine GmT.r (i := 8) 2 (by kernel_rfl) (by kernel_rfl) (Yl.load (d := 19) (T := 47) (v := .agg (c_RootEntry (gt a0 (wi64 (x1 - 1)))).toArray) (by kernel_rfl) (ldRN ty47 (cs := c_RootEntry (gt a0 (wi64 (x1 - 1)))) 0 (fun w hC => hr8 w0 w _ hC) hl9 (whole _ _ hl9))) hI ?_
          obtain ⟨hg11, h2⟩ := guardS h2
          obtain ⟨g12, o16, hA13, hr14, hl15⟩ := RdS.get hr_a0 hg11.1 hg11.2
          refine GmT.r (i := 13) 2 (by kernel_rfl) (by kernel_rfl) (Yl.indexSlice (d := 24) (T := 22) (cc := c_a0) (k := .i64) (j := x1) (g := g12) (o := o16) (by kernel_rfl) Go.Proofs.Try.underlying22 ty47 hA13 hg11.1 hg11.2) hI ?_
          refine GmT.r (i := 14) 2 (by kernel_rfl) (by kernel_rfl) (Yl.load (d := 25) (T := 47) (v := .agg (c_RootEntry (gt a0 x1)).toArray) (by kernel_rfl) (ldRN ty47 (cs := c_RootEntry (gt a0 x1)) 0 (fun w hC => hr14 w0 w _ hC) hl15 (whole _ _ hl15))) hI ?_
          obtain ⟨y18, hc17, h2⟩ := bindS h2
          try dsimp only at h2
          refine GmT.o (i := 9) (by kernel_rfl) (Does.call (d := some 20) (n := 42) (vs := [.agg (c_RootEntry (gt a0 (wi64 (x1 - 1)))).toArray]) (by kernel_rfl) en42 (c42 w0 w _ _ hI (gt a0 (wi64 (x1 - 1))) _ hc17) ?_)
          rintro e w ⟨rfl, hI⟩
          refine ⟨_, rfl, ?_⟩
          refine ⟨fun _ _ => hI, ?_⟩
          obtain ⟨y20, hc19, h2⟩ := bindS h2
          try dsimp only at h2
          refine GmT.o (i := 15) (by kernel_rfl) (Does.call (d := some 26) (n := 42) (vs := [.agg (c_RootEntry (gt a0 x1)).toArray]) (by kernel_rfl) en42 (c42 w0 w _ _ hI (gt a0 x1) _ hc19) ?_)
          rintro e w ⟨rfl, hI⟩
          refine ⟨_, rfl, ?_⟩
          refine ⟨fun _ _ => hI, ?_⟩
          refine GmT.p' 16 27 (.bool (decide (y18 ≥ y20))) (by kernel_rfl) (by kernel_rfl) ?_
          refine GmT.p' 17 28 (.bool (decide (y18 ≥ y20))) (by kernel_rfl) (by kernel_rfl) ?_
          refine GmT.done (by kernel_rfl) ?_
          have e := someS h2
          subst e
          exact Qn.thenJ fun a ha => ⟨decide (y18 ≥ y20), rfl, ha.keep [0, 1, 7, 8, 28] (by kernel_rfl), hI⟩
        · rw [if_neg hb4] at h2
          have hb4 : (decide (x1 > 0)) = false := by simpa using hb4
          refine GmT.keep [0, 1, 5, 7, 8, 13] (S' := [(0, .slice A_a0 a0.length c_a0), (1, .func (.func 42) #[] #[]), (5, .int .i64 x1), (7, .int .i64 (a0.length : Int)), (8, .int .i64 x1), (13, .bool false)]) (by simp only [hb4]; kernel_rfl) ?_
          refine GmT.p' 3 14 (undef) (by kernel_rfl) (by kernel_rfl) ?_
          refine GmT.p' 4 15 (undef) (by kernel_rfl) (by kernel_rfl) ?_
          refine GmT.p' 5 16 (undef) (by kernel_rfl) (by kernel_rfl) ?_
          refine GmT.p' 6 17 (undef) (by kernel_rfl) (by kernel_rfl) ?_
          refine GmT.p' 7 18 (undef) (by kernel_rfl) (by kernel_rfl) ?_
          refine GmT.p' 8 19 (undef) (by kernel_rfl) (by kernel_rfl) ?_
          refine GmT.p' 9 20 (undef) (by kernel_rfl) (by kernel_rfl) ?_
          refine GmT.p' 10 21 (undef) (by kernel_rfl) (by kernel_rfl) ?_
          refine GmT.p' 11 22 (undef) (by kernel_rfl) (by kernel_rfl) ?_
          refine GmT.p' 12 23 (undef) (by kernel_rfl) (by kernel_rfl) ?_
          refine GmT.p' 13 24 (undef) (by kernel_rfl) (by kernel_rfl) ?_
          refine GmT.p' 14 25 (undef) (by kernel_rfl) (by kernel_rfl) ?_
          refine GmT.p' 15 26 (undef) (by kernel_rfl) (by kernel_rfl) ?_
          refine GmT.p' 16 27 (undef) (by kernel_rfl) (by kernel_rfl) ?_
          refine GmT.p' 17 28 (.bool false) (by kernel_rfl) (by kernel_rfl) ?_
          refine GmT.done (by kernel_rfl) ?_
          have e := someS h2
          subst e
          exact Qn.thenJ fun a ha => ⟨false, rfl, ha.keep [0, 1, 7, 8, 28] (by kernel_rfl), hI⟩
      ·
        rintro a w ⟨x3, rfl, ha, hI⟩
        try dsimp only at h1
        refine CodT.of ?_ ha
        by_cases hb21 : x3 = true
        · rw [if_pos hb21] at h1
          refine CodT.yes' (b := x3) (by kernel_rfl) hb21 ?_
          refine CodT.seq ?_
          refine CodT.regionL [0] (by kernel_rfl) ?_
          refine OpsT.pures (r := []) [0] [4] (S' := [(4, .bool false)]) (by kernel_rfl) ?_
          refine OpsT.done ?_
          refine Qn.then ?_
          refine CodT.ret ?_
          refine Qn.block_ret ?_
          refine Qn.ret_then ?_
          refine Qn.ret_then ?_
          refine Qn.block_ret ?_
          refine Qn.ret_then ?_
          refine Qn.ret_then ?_
          have e := someS h1
          subst e
          try dsimp only at h0
          have e := someS h0
          subst e
          refine Qn.keep [4] (S' := [(4, .bool false)]) (by kernel_rfl) ?_
          exact post_ret (v := .bool false) (fun a ha => RunRes.run (vs := [.bool false]) (.tmp (t := 4) (by kernel_rfl) .nil) ha (by kernel_rfl)) ⟨rfl, hI⟩
        · rw [if_neg hb21] at h1
          refine CodT.no' (b := x3) (by kernel_rfl) (by simpa using hb21) ?_
          refine CodT.skip ?_
          refine Qn.block_normal ?_
          refine Qn.then ?_
          refine CodT.regionL [0, 1] (by kernel_rfl) ?_
          refine OpsT.pures (r := []) [0, 1] [0, 1, 7, 8] (S' := [(0, .slice A_a0 a0.length c_a0), (1, .func (.func 42) #[] #[]), (7, .int .i64 (a0.length : Int)), (8, .int .i64 (wi64 (x1 + 1)))]) (by kernel_rfl) ?_
          refine OpsT.done ?_
          exact Qn.thenJ fun a ha => ⟨k, Nat.lt_succ_self k, wi64 (x1 + 1), h1, ha.keep [0, 1, 7, 8] (by kernel_rfl), hI⟩
    · rw [if_neg hb2] at h1
      refine CodT.no' (b := decide (x1 < (a0.length : Int))) (by kernel_rfl) (by simpa using hb2) ?_
      refine CodT.exit ?_
      refine Qn.exit_then ?_
      refine Qn.exit_then ?_
      refine Qn.block ?_
      have e := someS h1
      subst e
      exact Qn.thenJ fun a ha => ⟨rfl, ha.keep [] (by kernel_rfl), hI⟩
  ·
    rintro a w ⟨rfl, ha, hI⟩
    try dsimp only at h0
    refine Qn.of ?_ ha
    refine Qn.then ?_
    refine CodT.seq ?_
    refine CodT.regionL [0] (by kernel_rfl) ?_
    refine OpsT.pures (r := []) [0] [4] (S' := [(4, .bool true)]) (by kernel_rfl) ?_
    refine OpsT.done ?_
    refine Qn.then ?_
    refine CodT.ret ?_
    have e := someS h0
    subst e
    refine Qn.keep [4] (S' := [(4, .bool true)]) (by kernel_rfl) ?_
    exact post_ret (v := .bool true) (fun a ha => RunRes.run (vs := [.bool true]) (.tmp (t := 4) (by kernel_rfl) .nil) ha (by kernel_rfl)) ⟨rfl, hI⟩
set_option maxRecDepth 100000 in
set_option maxHeartbeats 4000000 in
/-- cenotaph/root.self -/
theorem c44 (w0 w : World) (Z : Hp) (A : HP) (hI : Inv w0 Z w A) (a0 : Int) (r : Int) (h0 : root_self a0 = some r) :
    Calls prog 44 #[.int .i64 a0] w (fun e w' => e = .returned (.int .i64 r) ∧ Inv w0 Z w' A) := by
  have e4 := calls_intro (R := (fun e w' => e = .returned (.int .i64 r) ∧ Inv w0 Z w' A)) (w := w) (args := [.int .i64 a0]) (fn := Go.Proofs.Try.f44) 4 Go.Proofs.Try.func44 (by rfl) Go.Proofs.Try.ntmps44 (by kernel_rfl)
  refine e4 ?_
  clear e4
  unfold root_self at h0
  refine CodT.seq ?_
  refine CodT.regionL [0] (by kernel_rfl) ?_
  refine OpsT.pures (r := []) [0] [0] (S' := [(0, .int .i64 a0)]) (by kernel_rfl) ?_
  refine OpsT.done ?_
  refine Qn.then ?_
  refine CodT.seq ?_
  refine CodT.regionL [0, 1] (by kernel_rfl) ?_
  refine OpsT.pures (r := []) [0, 1] [2] (S' := [(2, .int .i64 a0)]) (by kernel_rfl) ?_
  refine OpsT.done ?_
  refine Qn.then ?_
  refine CodT.ret ?_
  have e := someS h0
  subst e
  refine Qn.keep [2] (S' := [(2, .int .i64 a0)]) (by kernel_rfl) ?_
  exact post_ret (v := .int .i64 a0) (fun a ha => RunRes.run (vs := [.int .i64 a0]) (.tmp (t := 2) (by kernel_rfl) .nil) ha (by kernel_rfl)) ⟨rfl, hI⟩
set_option maxRecDepth 100000 in
set_option maxHeartbeats 4000000 in
/-- cenotaph/root.rising[int] -/
theorem c43 (w0 w : World) (Z : Hp) (A : HP) (hI : Inv w0 Z w A) (A_a0 : Option Addr) (c_a0 : Nat) (a0 : (List Int)) (hr_a0 : RdS Z (cI .i64) 1 A_a0 c_a0 a0) (r : Bool) (h0 : root_rising_int__root_self a0 = some r) :
    Calls prog 43 #[.slice A_a0 a0.length c_a0, .func (.func 44) #[] #[]] w (fun e w' => e = .returned (.bool r) ∧ Inv w0 Z w' A) := by
  have e4 := calls_intro (R := (fun e w' => e = .returned (.bool r) ∧ Inv w0 Z w' A)) (w := w) (args := [.slice A_a0 a0.length c_a0, .func (.func 44) #[] #[]]) (fn := Go.Proofs.Try.f43) 30 Go.Proofs.Try.func43 (by rfl) Go.Proofs.Try.ntmps43 (by kernel_rfl)
  refine e4 ?_
  clear e4
  unfold root_rising_int__root_self at h0
  refine CodT.seq ?_
  refine CodT.regionL [0] (by kernel_rfl) ?_
  refine OpsT.pures (r := []) [0] [0, 1] (S' := [(0, .slice A_a0 a0.length c_a0), (1, .func (.func 44) #[] #[])]) (by kernel_rfl) ?_
  refine OpsT.done ?_
  refine Qn.then ?_
  refine CodT.seq ?_
  refine CodT.seq ?_
  refine CodT.regionL [0, 1, 2] (by kernel_rfl) ?_
  refine OpsT.pures (r := []) [0, 1, 2] [0, 1, 7, 8] (S' := [(0, .slice A_a0 a0.length c_a0), (1, .func (.func 44) #[] #[]), (7, .int .i64 (a0.length : Int)), (8, .int .i64 0)]) (by kernel_rfl) ?_
  refine OpsT.done ?_
  refine Qn.then ?_
  obtain ⟨r1, h1, h0⟩ := bindS h0
  refine CodT.meet1 (fun a w => .inr () = r1 ∧ Fr 30 [] a ∧ Inv w0 Z w A) ?_ ?_
  ·
    refine CodT.block ?_
    refine (fun a ha => wp_loopN (fun k a w => ∃ (x1 : Int), root_rising_int__root_self.l0 a0 k x1 = some r1 ∧ Fr 30 [(0, .slice A_a0 a0.length c_a0), (1, .func (.func 44) #[] #[]), (7, .int .i64 (a0.length : Int)), (8, .int .i64 x1)] a ∧ Inv w0 Z w A) ?_ FU a w ⟨0, h1, ha.keep [0, 1, 7, 8] (by kernel_rfl), hI⟩)
    clear h1 hI
    rintro k a w ⟨x1, h1, ha, hI⟩
    rcases k with _ | k
    · cases h1
    simp only [root_rising_int__root_self.l0] at h1
    refine CodT.of ?_ ha
    refine CodT.seq ?_
    refine CodT.regionL [0] (by kernel_rfl) ?_
    refine OpsT.pures (r := []) [0] [0, 1, 7, 8, 9] (S' := [(0, .slice A_a0 a0.length c_a0), (1, .func (.func 44) #[] #[]), (7, .int .i64 (a0.length : Int)), (8, .int .i64 x1), (9, .bool (decide (x1 < (a0.length : Int))))]) (by kernel_rfl) ?_
    refine OpsT.done ?_
    refine Qn.then ?_
    refine CodT.seq ?_
    by_cases hb2 : (decide (x1 < (a0.length : Int))) = true
    · rw [if_pos hb2] at h1
      refine CodT.yes' (b := decide (x1 < (a0.length : Int))) (by kernel_rfl) hb2 ?_
      refine CodT.skip ?_
      refine Qn.then ?_
      refine CodT.seq ?_
      refine CodT.block ?_
      refine CodT.seq ?_
      refine CodT.regionL [0, 1] (by kernel_rfl) ?_
      refine OpsT.pures (r := []) [0, 1] [0, 1, 5, 7, 8] (S' := [(0, .slice A_a0 a0.length c_a0), (1, .func (.func 44) #[] #[]), (5, .int .i64 x1), (7, .int .i64 (a0.length : Int)), (8, .int .i64 x1)]) (by kernel_rfl) ?_
      refine OpsT.done ?_
      refine Qn.then ?_
      obtain ⟨r2, h2, h1⟩ := bindS h1
      refine CodT.meet (fun a w => ∃ (x3 : Bool), x3 = r2 ∧ Fr 30 [(0, .slice A_a0 a0.length c_a0), (1, .func (.func 44) #[] #[]), (7, .int .i64 (a0.length : Int)), (8, .int .i64 x1), (28, .bool x3)] a ∧ Inv w0 Z w A) ?_ ?_
      ·
        refine CodT.drawI (n := 18) [] (by kernel_rfl) (by kernel_rfl) hI ?_
        intro w hI
        refine GmT.p' 0 11 (.int .i64 x1) (by kernel_rfl) (by kernel_rfl) ?_
        refine GmT.p' 1 12 (.bool (decide (x1 > 0))) (by kernel_rfl) (by kernel_rfl) ?_
        refine GmT.p' 2 13 (.bool (decide (x1 > 0))) (by kernel_rfl) (by kernel_rfl) ?_
        by_cases hb4 : (decide (x1 > 0)) = true
        · rw [if_pos hb4] at h2
          refine GmT.keep [0, 1, 5, 7, 8, 13] (S' := [(0, .slice A_a0 a0.length c_a0), (1, .func (.func 44) #[] #[]), (5, .int .i64 x1), (7, .int .i64 (a0.length : Int)), (8, .int .i64 x1), (13, .bool true)]) (by simp only [hb4]; kernel_rfl) ?_
          refine GmT.p' 3 14 (.func (.func 44) #[] #[]) (by kernel_rfl) (by kernel_rfl) ?_
          refine GmT.p' 4 15 (.slice A_a0 a0.length c_a0) (by kernel_rfl) (by kernel_rfl) ?_
          refine GmT.p' 5 16 (.int .i64 x1) (by kernel_rfl) (by kernel_rfl) ?_
          refine GmT.p' 6 17 (.int .i64 (wi64 (x1 - 1))) (by kernel_rfl) (by kernel_rfl) ?_
          refine GmT.p' 10 21 (.func (.func 44) #[] #[]) (by kernel_rfl) (by kernel_rfl) ?_
          refine GmT.p' 11 22 (.slice A_a0 a0.length c_a0) (by kernel_rfl) (by kernel_rfl) ?_
          refine GmT.p' 12 23 (.int .i64 x1) (by kernel_rfl) (by kernel_rfl) ?_
          obtain ⟨hg5, h2⟩ := guardS h2
          obtain ⟨g6, o10, hA7, hr8, hl9⟩ := RdS.get hr_a0 hg5.1 hg5.2
          refine GmT.r (i := 7) 2 (by kernel_rfl) (by kernel_rfl) (Yl.indexSlice (d := 18) (T := 23) (cc := c_a0) (k := .i64) (j := wi64 (x1 - 1)) (g := g6) (o := o10) (by kernel_rfl) Go.Proofs.Try.underlying23 ty3 hA7 hg5.1 hg5.2) hI ?_
          refine GmT.r (i := 8) 2 (by kernel_rfl) (by kernel_rfl) (Yl.load (d := 19) (T := 3) (v := .int .i64 (gt a0 (wi64 (x1 - 1)))) (by kernel_rfl) (ldR ty3 (v := .int .i64 (gt a0 (wi64 (x1 - 1)))) 0 (fun w hC => hr8 w0 w _ hC) (by kernel_rfl))) hI ?_
          obtain ⟨hg11, h2⟩ := guardS h2
          obtain ⟨g12, o16, hA13, hr14, hl15⟩ := RdS.get hr_a0 hg11.1 hg11.2
          refine GmT.r (i := 13) 2 (by kernel_rfl) (by kernel_rfl) (Yl.indexSlice (d := 24) (T := 23) (cc := c_a0) (k := .i64) (j := x1) (g := g12) (o := o16) (by kernel_rfl) Go.Proofs.Try.underlying23 ty3 hA13 hg11.1 hg11.2) hI ?_
          refine GmT.r (i := 14) 2 (by kernel_rfl) (by kernel_rfl) (Yl.load (d := 25) (T := 3) (v := .int .i64 (gt a0 x1)) (by kernel_rfl) (ldR ty3 (v := .int .i64 (gt a0 x1)) 0 (fun w hC => hr14 w0 w _ hC) (by kernel_rfl))) hI ?_
          obtain ⟨y18, hc17, h2⟩ := bindS h2
          try dsimp only at h2
          refine GmT.o (i := 9) (by kernel_rfl) (Does.call (d := some 20) (n := 44) (vs := [.int .i64 (gt a0 (wi64 (x1 - 1)))]) (by kernel_rfl) en44 (c44 w0 w _ _ hI (gt a0 (wi64 (x1 - 1))) _ hc17) ?_)
          rintro e w ⟨rfl, hI⟩
          refine ⟨_, rfl, ?_⟩
          refine ⟨fun _ _ => hI, ?_⟩
          obtain ⟨y20, hc19, h2⟩ := bindS h2
          try dsimp only at h2
          refine GmT.o (i := 15) (by kernel_rfl) (Does.call (d := some 26) (n := 44) (vs := [.int .i64 (gt a0 x1)]) (by kernel_rfl) en44 (c44 w0 w _ _ hI (gt a0 x1) _ hc19) ?_)
          rintro e w ⟨rfl, hI⟩
          refine ⟨_, rfl, ?_⟩
          refine ⟨fun _ _ => hI, ?_⟩
          refine GmT.p' 16 27 (.bool (decide (y18 ≥ y20))) (by kernel_rfl) (by kernel_rfl) ?_
          refine GmT.p' 17 28 (.bool (decide (y18 ≥ y20))) (by kernel_rfl) (by kernel_rfl) ?_
          refine GmT.done (by kernel_rfl) ?_
          have e := someS h2
          subst e
          exact Qn.thenJ fun a ha => ⟨decide (y18 ≥ y20), rfl, ha.keep [0, 1, 7, 8, 28] (by kernel_rfl), hI⟩
        · rw [if_neg hb4] at h2
          have hb4 : (decide (x1 > 0)) = false := by simpa using hb4
          refine GmT.keep [0, 1, 5, 7, 8, 13] (S' := [(0, .slice A_a0 a0.length c_a0), (1, .func (.func 44) #[] #[]), (5, .int .i64 x1), (7, .int .i64 (a0.length : Int)), (8, .int .i64 x1), (13, .bool false)]) (by simp only [hb4]; kernel_rfl) ?_
          refine GmT.p' 3 14 (undef) (by kernel_rfl) (by kernel_rfl) ?_
          refine GmT.p' 4 15 (undef) (by kernel_rfl) (by kernel_rfl) ?_
          refine GmT.p' 5 16 (undef) (by kernel_rfl) (by kernel_rfl) ?_
          refine GmT.p' 6 17 (undef) (by kernel_rfl) (by kernel_rfl) ?_
          refine GmT.p' 7 18 (undef) (by kernel_rfl) (by kernel_rfl) ?_
          refine GmT.p' 8 19 (undef) (by kernel_rfl) (by kernel_rfl) ?_
          refine GmT.p' 9 20 (undef) (by kernel_rfl) (by kernel_rfl) ?_
          refine GmT.p' 10 21 (undef) (by kernel_rfl) (by kernel_rfl) ?_
          refine GmT.p' 11 22 (undef) (by kernel_rfl) (by kernel_rfl) ?_
          refine GmT.p' 12 23 (undef) (by kernel_rfl) (by kernel_rfl) ?_
          refine GmT.p' 13 24 (undef) (by kernel_rfl) (by kernel_rfl) ?_
          refine GmT.p' 14 25 (undef) (by kernel_rfl) (by kernel_rfl) ?_
          refine GmT.p' 15 26 (undef) (by kernel_rfl) (by kernel_rfl) ?_
          refine GmT.p' 16 27 (undef) (by kernel_rfl) (by kernel_rfl) ?_
          refine GmT.p' 17 28 (.bool false) (by kernel_rfl) (by kernel_rfl) ?_
          refine GmT.done (by kernel_rfl) ?_
          have e := someS h2
          subst e
          exact Qn.thenJ fun a ha => ⟨false, rfl, ha.keep [0, 1, 7, 8, 28] (by kernel_rfl), hI⟩
      ·
        rintro a w ⟨x3, rfl, ha, hI⟩
        try dsimp only at h1
        refine CodT.of ?_ ha
        by_cases hb21 : x3 = true
        · rw [if_pos hb21] at h1
          refine CodT.yes' (b := x3) (by kernel_rfl) hb21 ?_
          refine CodT.seq ?_
          refine CodT.regionL [0] (by kernel_rfl) ?_
          refine OpsT.pures (r := []) [0] [4] (S' := [(4, .bool false)]) (by kernel_rfl) ?_
          refine OpsT.done ?_
          refine Qn.then ?_
          refine CodT.ret ?_
          refine Qn.block_ret ?_
          refine Qn.ret_then ?_
          refine Qn.ret_then ?_
          refine Qn.block_ret ?_
          refine Qn.ret_then ?_
          refine Qn.ret_then ?_
          have e := someS h1
          subst e
          try dsimp only at h0
          have e := someS h0
          subst e
          refine Qn.keep [4] (S' := [(4, .bool false)]) (by kernel_rfl) ?_
          exact post_ret (v := .bool false) (fun a ha => RunRes.run (vs := [.bool false]) (.tmp (t := 4) (by kernel_rfl) .nil) ha (by kernel_rfl)) ⟨rfl, hI⟩
        · rw [if_neg hb21] at h1
          refine CodT.no' (b := x3) (by kernel_rfl) (by simpa using hb21) ?_
          refine CodT.skip ?_
          refine Qn.block_normal ?_
          refine Qn.then ?_
          refine CodT.regionL [0, 1] (by kernel_rfl) ?_
          refine OpsT.pures (r := []) [0, 1] [0, 1, 7, 8] (S' := [(0, .slice A_a0 a0.length c_a0), (1, .func (.func 44) #[] #[]), (7, .int .i64 (a0.length : Int)), (8, .int .i64 (wi64 (x1 + 1)))]) (by kernel_rfl) ?_
          refine OpsT.done ?_
          exact Qn.thenJ fun a ha => ⟨k, Nat.lt_succ_self k, wi64 (x1 + 1), h1, ha.keep [0, 1, 7, 8] (by kernel_rfl), hI⟩
    · rw [if_neg hb2] at h1
      refine CodT.no' (b := decide (x1 < (a0.length : Int))) (by kernel_rfl) (by simpa using hb2) ?_
      refine CodT.exit ?_
      refine Qn.exit_then ?_
      refine Qn.exit_then ?_
      refine Qn.block ?_
      have e := someS h1
      subst e
      exact Qn.thenJ fun a ha => ⟨rfl, ha.keep [] (by kernel_rfl), hI⟩
  ·
    rintro a w ⟨rfl, ha, hI⟩
    try dsimp only at h0
    refine Qn.of ?_ ha
    refine Qn.then ?_
    refine CodT.seq ?_
    refine CodT.regionL [0] (by kernel_rfl) ?_
    refine OpsT.pures (r := []) [0] [4] (S' := [(4, .bool true)]) (by kernel_rfl) ?_
    refine OpsT.done ?_
    refine Qn.then ?_
    refine CodT.ret ?_
    have e := someS h0
    subst e
    refine Qn.keep [4] (S' := [(4, .bool true)]) (by kernel_rfl) ?_
    exact post_ret (v := .bool true) (fun a ha => RunRes.run (vs := [.bool true]) (.tmp (t := 4) (by kernel_rfl) .nil) ha (by kernel_rfl)) ⟨rfl, hI⟩
set_option maxRecDepth 100000 in
set_option maxHeartbeats 4000000 in
/-- cenotaph/root.Valid -/
theorem c14 (w0 w : World) (Z : Hp) (A : HP) (hI : Inv w0 Z w A) (A_a0_Map : Option Addr) (c_a0_Map : Nat) (a0_Map : (List RootEntry)) (hr_a0_Map : RdS Z c_RootEntry 4 A_a0_Map c_a0_Map a0_Map) (A_a0_Gone : Option Addr) (c_a0_Gone : Nat) (a0_Gone : (List Int)) (hr_a0_Gone : RdS Z (cI .i64) 1 A_a0_Gone c_a0_Gone a0_Gone) (r : Bool) (h0 : root_Valid a0_Map a0_Gone = some r) :
    Calls prog 14 #[.agg ((([.slice A_a0_Map a0_Map.length c_a0_Map, .slice A_a0_Gone a0_Gone.length c_a0_Gone] : List Value))).toArray] w (fun e w' => e = .returned (.bool r) ∧ Inv w0 Z w' A) := by
  have e4 := calls_intro (R := (fun e w' => e = .returned (.bool r) ∧ Inv w0 Z w' A)) (w := w) (args := [.agg ((([.slice A_a0_Map a0_Map.length c_a0_Map, .slice A_a0_Gone a0_Gone.length c_a0_Gone] : List Value))).toArray]) (fn := Go.Proofs.Try.f14) 39 Go.Proofs.Try.func14 (by rfl) Go.Proofs.Try.ntmps14 (by kernel_rfl)
  refine e4 ?_
  clear e4
  unfold root_Valid at h0
  refine CodT.seq ?_
  refine CodT.regionL [0, 1] (by kernel_rfl) ?_
  refine OpsT.cons (Does.boxL (d := 1) (T := 25) (v := .agg ((([.slice A_a0_Map a0_Map.length c_a0_Map, .slice A_a0_Gone a0_Gone.length c_a0_Gone] : List Value))).toArray) ((([.slice A_a0_Map a0_Map.length c_a0_Map, .slice A_a0_Gone a0_Gone.length c_a0_Gone] : List Value))) (by kernel_rfl) hI (by kernel_rfl) ?_)
  intro b1 w hI
  refine OpsT.pures (r := []) [1] [1] (S' := [(1, .pointer (some ⟨b1, 0, none⟩))]) (by kernel_rfl) ?_
  refine OpsT.done ?_
  refine Qn.then ?_
  refine CodT.seq ?_
  refine CodT.regionL [0] (by kernel_rfl) ?_
  refine OpsT.pures (r := []) [0] [1, 3] (S' := [(1, .pointer (some ⟨b1, 0, none⟩)), (3, .func (.func 36) #[] #[])]) (by kernel_rfl) ?_
  refine OpsT.done ?_
  refine Qn.then ?_
  refine CodT.seq ?_
  refine CodT.regionL [0] (by kernel_rfl) ?_
  refine OpsT.pures (r := []) [0] [1, 3, 4] (S' := [(1, .pointer (some ⟨b1, 0, none⟩)), (3, .func (.func 36) #[] #[]), (4, .func (.func 38) #[] #[])]) (by kernel_rfl) ?_
  refine OpsT.done ?_
  refine Qn.then ?_
  obtain ⟨r1, h1, h0⟩ := bindS h0
  refine CodT.meet (fun a w => ∃ (x2 : Bool), x2 = r1 ∧ Fr 39 [(2, .bool x2)] a ∧ Inv w0 Z w A) ?_ ?_
  ·
    refine CodT.regionL [0, 1, 2, 3, 4, 5, 6, 7, 8, 9, 10, 11, 12, 13, 14, 15, 16, 17, 18, 19, 20, 21, 22, 23, 24, 25, 26, 27, 28, 29, 30, 31, 32, 33, 34] (by kernel_rfl) ?_
    refine OpsT.pures (r := [1, 2, 3, 4, 5, 6, 7, 8, 9, 10, 11, 12, 13, 14, 15, 16, 17, 18, 19, 20, 21, 22, 23, 24, 25, 26, 27, 28, 29, 30, 31, 32, 33, 34]) [0] [1, 3, 4, 5] (S' := [(1, .pointer (some ⟨b1, 0, none⟩)), (3, .func (.func 36) #[] #[]), (4, .func (.func 38) #[] #[]), (5, .pointer (some ⟨b1, 0, none⟩))]) (by kernel_rfl) ?_
    refine OpsT.cons (Does.yi (Yl.load (d := 6) (T := 22) (v := .slice A_a0_Map a0_Map.length c_a0_Map) (by kernel_rfl) (ldB ty22 (l := (([.slice A_a0_Map a0_Map.length c_a0_Map, .slice A_a0_Gone a0_Gone.length c_a0_Gone] : List Value))) (o := 0) (v := .slice A_a0_Map a0_Map.length c_a0_Map) (ent_refl _) (by kernel_rfl))) hI ?_)
    refine OpsT.pures (r := [5, 6, 7, 8, 9, 10, 11, 12, 13, 14, 15, 16, 17, 18, 19, 20, 21, 22, 23, 24, 25, 26, 27, 28, 29, 30, 31, 32, 33, 34]) [2, 3, 4] [1, 3, 4, 9] (S' := [(1, .pointer (some ⟨b1, 0, none⟩)), (3, .func (.func 36) #[] #[]), (4, .func (.func 38) #[] #[]), (9, .bool (decide ((a0_Map.length : Int) ≤ 400)))]) (by kernel_rfl) ?_
    by_cases hb3 : (decide ((a0_Map.length : Int) ≤ 400)) = true
    · rw [if_pos hb3] at h1
      refine OpsT.keep [1, 3, 4, 9] (S' := [(1, .pointer (some ⟨b1, 0, none⟩)), (3, .func (.func 36) #[] #[]), (4, .func (.func 38) #[] #[]), (9, .bool true)]) (by simp only [hb3]; kernel_rfl) ?_
      refine OpsT.pures (r := [6, 7, 8, 9, 10, 11, 12, 13, 14, 15, 16, 17, 18, 19, 20, 21, 22, 23, 24, 25, 26, 27, 28, 29, 30, 31, 32, 33, 34]) [5] [1, 3, 4, 9, 10] (S' := [(1, .pointer (some ⟨b1, 0, none⟩)), (3, .func (.func 36) #[] #[]), (4, .func (.func 38) #[] #[]), (9, .bool true), (10, .pointer (some ⟨b1, 1, none⟩))]) (by kernel_rfl) ?_
      refine OpsT.cons (Does.yi (Yl.load (d := 11) (T := 23) (v := .slice A_a0_Gone a0_Gone.length c_a0_Gone) (by kernel_rfl) (ldB ty23 (l := (([.slice A_a0_Map a0_Map.length c_a0_Map, .slice A_a0_Gone a0_Gone.length c_a0_Gone] : List Value))) (o := 1) (v := .slice A_a0_Gone a0_Gone.length c_a0_Gone) (ent_refl _) (by kernel_rfl))) hI ?_)
      refine OpsT.pures (r := [11, 12, 13, 14, 15, 16, 17, 18, 19, 20, 21, 22, 23, 24, 25, 26, 27, 28, 29, 30, 31, 32, 33, 34]) [7, 8, 9, 10] [1, 3, 4, 15] (S' := [(1, .pointer (some ⟨b1, 0, none⟩)), (3, .func (.func 36) #[] #[]), (4, .func (.func 38) #[] #[]), (15, .bool (decide ((a0_Gone.length : Int) ≤ 100)))]) (by kernel_rfl) ?_
      by_cases hb4 : (decide ((a0_Gone.length : Int) ≤ 100)) = true
      · rw [if_pos hb4] at h1
        refine OpsT.keep [1, 3, 4, 15] (S' := [(1, .pointer (some ⟨b1, 0, none⟩)), (3, .func (.func 36) #[] #[]), (4, .func (.func 38) #[] #[]), (15, .bool true)]) (by simp only [hb4]; kernel_rfl) ?_
        refine OpsT.pures (r := [12, 13, 14, 15, 16, 17, 18, 19, 20, 21, 22, 23, 24, 25, 26, 27, 28, 29, 30, 31, 32, 33, 34]) [11] [1, 3, 4, 15, 16] (S' := [(1, .pointer (some ⟨b1, 0, none⟩)), (3, .func (.func 36) #[] #[]), (4, .func (.func 38) #[] #[]), (15, .bool true), (16, .pointer (some ⟨b1, 0, none⟩))]) (by kernel_rfl) ?_
        refine OpsT.cons (Does.yi (Yl.load (d := 17) (T := 22) (v := .slice A_a0_Map a0_Map.length c_a0_Map) (by kernel_rfl) (ldB ty22 (l := (([.slice A_a0_Map a0_Map.length c_a0_Map, .slice A_a0_Gone a0_Gone.length c_a0_Gone] : List Value))) (o := 0) (v := .slice A_a0_Map a0_Map.length c_a0_Map) (ent_refl _) (by kernel_rfl))) hI ?_)
        refine OpsT.pures (r := [14, 15, 16, 17, 18, 19, 20, 21, 22, 23, 24, 25, 26, 27, 28, 29, 30, 31, 32, 33, 34]) [13] [1, 4, 15, 17, 18] (S' := [(1, .pointer (some ⟨b1, 0, none⟩)), (4, .func (.func 38) #[] #[]), (15, .bool true), (17, .slice A_a0_Map a0_Map.length c_a0_Map), (18, .func (.func 36) #[] #[])]) (by kernel_rfl) ?_
        obtain ⟨y6, hc5, h1⟩ := bindS h1
        try dsimp only at h1
        refine OpsT.cons (Does.call (d := some 19) (n := 39) (vs := [.slice A_a0_Map a0_Map.length c_a0_Map, .func (.func 36) #[] #[]]) (by kernel_rfl) en39 (c39 w0 w _ _ hI A_a0_Map c_a0_Map a0_Map hr_a0_Map _ hc5) ?_)
        rintro e w ⟨rfl, hI⟩
        refine ⟨_, rfl, ?_⟩
        refine OpsT.pures (r := [18, 19, 20, 21, 22, 23, 24, 25, 26, 27, 28, 29, 30, 31, 32, 33, 34]) [15, 16, 17] [1, 4, 22] (S' := [(1, .pointer (some ⟨b1, 0, none⟩)), (4, .func (.func 38) #[] #[]), (22, .bool (!y6))]) (by kernel_rfl) ?_
        by_cases hb7 : (!y6) = true
        · rw [if_pos hb7] at h1
          refine OpsT.keep [1, 4, 22] (S' := [(1, .pointer (some ⟨b1, 0, none⟩)), (4, .func (.func 38) #[] #[]), (22, .bool true)]) (by simp only [hb7]; kernel_rfl) ?_
          refine OpsT.pures (r := [19, 20, 21, 22, 23, 24, 25, 26, 27, 28, 29, 30, 31, 32, 33, 34]) [18] [1, 4, 22, 23] (S' := [(1, .pointer (some ⟨b1, 0, none⟩)), (4, .func (.func 38) #[] #[]), (22, .bool true), (23, .pointer (some ⟨b1, 1, none⟩))]) (by kernel_rfl) ?_
          refine OpsT.cons (Does.yi (Yl.load (d := 24) (T := 23) (v := .slice A_a0_Gone a0_Gone.length c_a0_Gone) (by kernel_rfl) (ldB ty23 (l := (([.slice A_a0_Map a0_Map.length c_a0_Map, .slice A_a0_Gone a0_Gone.length c_a0_Gone] : List Value))) (o := 1) (v := .slice A_a0_Gone a0_Gone.length c_a0_Gone) (ent_refl _) (by kernel_rfl))) hI ?_)
          refine OpsT.pures (r := [21, 22, 23, 24, 25, 26, 27, 28, 29, 30, 31, 32, 33, 34]) [20] [1, 22, 24, 25] (S' := [(1, .pointer (some ⟨b1, 0, none⟩)), (22, .bool true), (24, .slice A_a0_Gone a0_Gone.length c_a0_Gone), (25, .func (.func 38) #[] #[])]) (by kernel_rfl) ?_
          obtain ⟨y9, hc8, h1⟩ := bindS h1
          try dsimp only at h1
          refine OpsT.cons (Does.call (d := some 26) (n := 40) (vs := [.slice A_a0_Gone a0_Gone.length c_a0_Gone, .func (.func 38) #[] #[]]) (by kernel_rfl) en40 (c40 w0 w _ _ hI A_a0_Gone c_a0_Gone a0_Gone hr_a0_Gone _ hc8) ?_)
          rintro e w ⟨rfl, hI⟩
          refine ⟨_, rfl, ?_⟩
          refine OpsT.pures (r := [25, 26, 27, 28, 29, 30, 31, 32, 33, 34]) [22, 23, 24] [1, 29] (S' := [(1, .pointer (some ⟨b1, 0, none⟩)), (29, .bool (!y9))]) (by kernel_rfl) ?_
          by_cases hb10 : (!y9) = true
          · rw [if_pos hb10] at h1
            refine OpsT.keep [1, 29] (S' := [(1, .pointer (some ⟨b1, 0, none⟩)), (29, .bool true)]) (by simp only [hb10]; kernel_rfl) ?_
            refine OpsT.pures (r := [26, 27, 28, 29, 30, 31, 32, 33, 34]) [25] [1, 29, 30] (S' := [(1, .pointer (some ⟨b1, 0, none⟩)), (29, .bool true), (30, .pointer (some ⟨b1, 0, none⟩))]) (by kernel_rfl) ?_
            refine OpsT.cons (Does.yi (Yl.load (d := 31) (T := 22) (v := .slice A_a0_Map a0_Map.length c_a0_Map) (by kernel_rfl) (ldB ty22 (l := (([.slice A_a0_Map a0_Map.length c_a0_Map, .slice A_a0_Gone a0_Gone.length c_a0_Gone] : List Value))) (o := 0) (v := .slice A_a0_Map a0_Map.length c_a0_Map) (ent_refl _) (by kernel_rfl))) hI ?_)
            obtain ⟨y12, hc11, h1⟩ := bindS h1
            try dsimp only at h1
            refine OpsT.cons (Does.call (d := some 32) (n := 41) (vs := [.slice A_a0_Map a0_Map.length c_a0_Map, .func (.func 42) #[] #[]]) (by kernel_rfl) en41 (c41 w0 w _ _ hI A_a0_Map c_a0_Map a0_Map hr_a0_Map _ hc11) ?_)
            rintro e w ⟨rfl, hI⟩
            refine ⟨_, rfl, ?_⟩
            refine OpsT.pures (r := [30, 31, 32, 33, 34]) [28, 29] [1, 34] (S' := [(1, .pointer (some ⟨b1, 0, none⟩)), (34, .bool y12)]) (by kernel_rfl) ?_
            by_cases hb13 : y12 = true
            · rw [if_pos hb13] at h1
              refine OpsT.keep [1, 34] (S' := [(1, .pointer (some ⟨b1, 0, none⟩)), (34, .bool true)]) (by simp only [hb13]; kernel_rfl) ?_
              refine OpsT.pures (r := [31, 32, 33, 34]) [30] [34, 35] (S' := [(34, .bool true), (35, .pointer (some ⟨b1, 1, none⟩))]) (by kernel_rfl) ?_
              refine OpsT.cons (Does.yi (Yl.load (d := 36) (T := 23) (v := .slice A_a0_Gone a0_Gone.length c_a0_Gone) (by kernel_rfl) (ldB ty23 (l := (([.slice A_a0_Map a0_Map.length c_a0_Map, .slice A_a0_Gone a0_Gone.length c_a0_Gone] : List Value))) (o := 1) (v := .slice A_a0_Gone a0_Gone.length c_a0_Gone) (ent_refl _) (by kernel_rfl))) hI ?_)
              obtain ⟨y15, hc14, h1⟩ := bindS h1
              try dsimp only at h1
              refine OpsT.cons (Does.call (d := some 37) (n := 43) (vs := [.slice A_a0_Gone a0_Gone.length c_a0_Gone, .func (.func 44) #[] #[]]) (by kernel_rfl) en43 (c43 w0 w _ _ hI A_a0_Gone c_a0_Gone a0_Gone hr_a0_Gone _ hc14) ?_)
              rintro e w ⟨rfl, hI⟩
              refine ⟨_, rfl, ?_⟩
              refine OpsT.pures (r := []) [33, 34] [2] (S' := [(2, .bool y15)]) (by kernel_rfl) ?_
              refine OpsT.done ?_
              have hI := hI.drop
              have e := someS h1
              subst e
              exact Qn.thenJ fun a ha => ⟨y15, rfl, ha.keep [2] (by kernel_rfl), hI⟩
            · rw [if_neg hb13] at h1
              have hb13 : y12 = false := by simpa using hb13
              refine OpsT.keep [1, 34] (S' := [(1, .pointer (some ⟨b1, 0, none⟩)), (34, .bool false)]) (by simp only [hb13]; kernel_rfl) ?_
              refine OpsT.pures (r := []) [30, 31, 32, 33, 34] [2] (S' := [(2, .bool false)]) (by kernel_rfl) ?_
              refine OpsT.done ?_
              have hI := hI.drop
              have e := someS h1
              subst e
              exact Qn.thenJ fun a ha => ⟨false, rfl, ha.keep [2] (by kernel_rfl), hI⟩
          · rw [if_neg hb10] at h1
            have hb10 : (!y9) = false := by simpa using hb10
            refine OpsT.keep [1, 29] (S' := [(1, .pointer (some ⟨b1, 0, none⟩)), (29, .bool false)]) (by simp only [hb10]; kernel_rfl) ?_
            refine OpsT.pures (r := []) [25, 26, 27, 28, 29, 30, 31, 32, 33, 34] [2] (S' := [(2, .bool false)]) (by kernel_rfl) ?_
            refine OpsT.done ?_
            have hI := hI.drop
            have e := someS h1
            subst e
            exact Qn.thenJ fun a ha => ⟨false, rfl, ha.keep [2] (by kernel_rfl), hI⟩
        · rw [if_neg hb7] at h1
          have hb7 : (!y6) = false := by simpa using hb7
          refine OpsT.keep [1, 4, 22] (S' := [(1, .pointer (some ⟨b1, 0, none⟩)), (4, .func (.func 38) #[] #[]), (22, .bool false)]) (by simp only [hb7]; kernel_rfl) ?_
          refine OpsT.pures (r := []) [18, 19, 20, 21, 22, 23, 24, 25, 26, 27, 28, 29, 30, 31, 32, 33, 34] [2] (S' := [(2, .bool false)]) (by kernel_rfl) ?_
          refine OpsT.done ?_
          have hI := hI.drop
          have e := someS h1
          subst e
          exact Qn.thenJ fun a ha => ⟨false, rfl, ha.keep [2] (by kernel_rfl), hI⟩
      · rw [if_neg hb4] at h1
        have hb4 : (decide ((a0_Gone.length : Int) ≤ 100)) = false := by simpa using hb4
        refine OpsT.keep [1, 3, 4, 15] (S' := [(1, .pointer (some ⟨b1, 0, none⟩)), (3, .func (.func 36) #[] #[]), (4, .func (.func 38) #[] #[]), (15, .bool false)]) (by simp only [hb4]; kernel_rfl) ?_
        refine OpsT.pures (r := []) [11, 12, 13, 14, 15, 16, 17, 18, 19, 20, 21, 22, 23, 24, 25, 26, 27, 28, 29, 30, 31, 32, 33, 34] [2] (S' := [(2, .bool false)]) (by kernel_rfl) ?_
        refine OpsT.done ?_
        have hI := hI.drop
        have e := someS h1
        subst e
        exact Qn.thenJ fun a ha => ⟨false, rfl, ha.keep [2] (by kernel_rfl), hI⟩
    · rw [if_neg hb3] at h1
      have hb3 : (decide ((a0_Map.length : Int) ≤ 400)) = false := by simpa using hb3
      refine OpsT.keep [1, 3, 4, 9] (S' := [(1, .pointer (some ⟨b1, 0, none⟩)), (3, .func (.func 36) #[] #[]), (4, .func (.func 38) #[] #[]), (9, .bool false)]) (by simp only [hb3]; kernel_rfl) ?_
      refine OpsT.pures (r := []) [5, 6, 7, 8, 9, 10, 11, 12, 13, 14, 15, 16, 17, 18, 19, 20, 21, 22, 23, 24, 25, 26, 27, 28, 29, 30, 31, 32, 33, 34] [2] (S' := [(2, .bool false)]) (by kernel_rfl) ?_
      refine OpsT.done ?_
      have hI := hI.drop
      have e := someS h1
      subst e
      exact Qn.thenJ fun a ha => ⟨false, rfl, ha.keep [2] (by kernel_rfl), hI⟩
  ·
    rintro a w ⟨x2, rfl, ha, hI⟩
    try dsimp only at h0
    refine CodT.of ?_ ha
    refine CodT.ret ?_
    have e := someS h0
    subst e
    refine Qn.keep [2] (S' := [(2, .bool x2)]) (by kernel_rfl) ?_
    exact post_ret (v := .bool x2) (fun a ha => RunRes.run (vs := [.bool x2]) (.tmp (t := 2) (by kernel_rfl) .nil) ha (by kernel_rfl)) ⟨rfl, hI⟩
set_option maxRecDepth 100000 in
set_option maxHeartbeats 4000000 in
/-- cenotaph/wire.Num -/
theorem c49 (w0 w : World) (Z : Hp) (A : HP) (hI : Inv w0 Z w A) (a0 : Int) (r : ByteArray) (h0 : wire_Num a0 = some r) :
    Calls prog 49 #[.int .i64 a0] w (fun e w' => e = .returned (.string r) ∧ Inv w0 Z w' A) := by
  have e4 := calls_intro (R := (fun e w' => e = .returned (.string r) ∧ Inv w0 Z w' A)) (w := w) (args := [.int .i64 a0]) (fn := Go.Proofs.Try.f49) 23 Go.Proofs.Try.func49 (by rfl) Go.Proofs.Try.ntmps49 (by kernel_rfl)
  refine e4 ?_
  clear e4
  unfold wire_Num at h0
  refine CodT.seq ?_
  refine CodT.regionL [0] (by kernel_rfl) ?_
  refine OpsT.pures (r := []) [0] [0] (S' := [(0, .int .i64 a0)]) (by kernel_rfl) ?_
  refine OpsT.done ?_
  refine Qn.then ?_
  refine CodT.seq ?_
  refine CodT.regionL [0] (by kernel_rfl) ?_
  refine OpsT.pures (r := []) [0] [0, 3] (S' := [(0, .int .i64 a0), (3, .slice none 0 0)]) (by kernel_rfl) ?_
  refine OpsT.done ?_
  refine Qn.then ?_
  refine CodT.seq ?_
  refine CodT.seq ?_
  refine CodT.regionL [0, 1, 2, 3] (by kernel_rfl) ?_
  refine OpsT.pures (r := []) [0, 1, 2, 3] [0, 3] (S' := [(0, .int .i64 (if 1125899906842624 < (if 0 > a0 then 0 else a0) then 1125899906842624 else if 0 > a0 then 0 else a0)), (3, .slice none 0 0)]) (by kernel_rfl) ?_
  refine OpsT.done ?_
  refine Qn.then ?_
  obtain ⟨r1, h1, h0⟩ := bindS h0
  refine CodT.meet1 (fun a w => ∃ (x1 : Int) (x2 : (List Int)) (A3 : Option Addr) (cp4 : Nat), (x1, x2) = r1 ∧ Fr 23 [(0, .int .i64 x1), (3, .slice A3 x2.length cp4)] a ∧ Inv w0 Z w (star (ownS 5 (cI .u8) 1 A3 cp4 x2) A)) ?_ ?_
  ·
    refine CodT.block ?_
    have hI := ownS_nil (α := Int) hI 5 (cI .u8) 1
    refine (fun a ha => wp_loopN (fun k a w => ∃ (x5 : Int) (x6 : (List Int)) (A7 : Option Addr) (cp8 : Nat), wire_Num.l0 k x5 x6 = some r1 ∧ Fr 23 [(0, .int .i64 x5), (3, .slice A7 x6.length cp8)] a ∧ Inv w0 Z w (star (ownS 5 (cI .u8) 1 A7 cp8 x6) A)) ?_ FU a w ⟨if 1125899906842624 < (if 0 > a0 then 0 else a0) then 1125899906842624 else if 0 > a0 then 0 else a0, ([] : List Int), none, 0, h1, ha.keep [0, 3] (by kernel_rfl), hI⟩)
    clear h1 hI
    rintro k a w ⟨x5, x6, A7, cp8, h1, ha, hI⟩
    rcases k with _ | k
    · cases h1
    simp only [wire_Num.l0] at h1
    refine CodT.of ?_ ha
    refine CodT.seq ?_
    refine CodT.seq ?_
    refine CodT.regionL [0, 1] (by kernel_rfl) ?_
    refine OpsT.pures (r := []) [0, 1] [0, 3, 8] (S' := [(0, .int .i64 x5), (3, .slice A7 x6.length cp8), (8, .bool (decide (x5 ≥ 128)))]) (by kernel_rfl) ?_
    refine OpsT.done ?_
    refine Qn.then ?_
    by_cases hb9 : (decide (x5 ≥ 128)) = true
    · rw [if_pos hb9] at h1
      refine CodT.yes' (b := decide (x5 ≥ 128)) (by kernel_rfl) hb9 ?_
      refine CodT.skip ?_
      refine Qn.then ?_
      refine CodT.seq ?_
      refine CodT.block ?_
      refine CodT.regionL [0, 1, 2, 3, 4, 5, 6] (by kernel_rfl) ?_
      refine OpsT.pures (r := [4, 5, 6]) [0, 1, 2, 3] [0, 11, 14] (S' := [(0, .int .i64 x5), (11, .slice A7 x6.length cp8), (14, .int .u8 (bOr .u8 (wu8 x5) 128))]) (by kernel_rfl) ?_
      refine OpsT.cons (Does.buildSlice (en := (cI .u8)) (d := 15) (n := 1) (T := 68) (ps := [(0, .int .u8 (bOr .u8 (wu8 x5) 128))]) ([bOr .u8 (wu8 x5) 128] : List Int) (by kernel_rfl) Go.Proofs.Try.underlying68 ty5 (by kernel_rfl) (by kernel_rfl) (by kernel_rfl) (by kernel_rfl) (len_all (fun _ => rfl)) hI ?_)
      intro b10 w hI
      obtain ⟨hg11, h1⟩ := guardS h1
      have hI := hI.mono (pick2 _ _ _)
      refine OpsT.cons (Does.append (d := 16) (t := 68) (tx := 68) (ty := 68) (ys := x6) (zs := ([bOr .u8 (wu8 x5) 128] : List Int)) (x := .slice (some ⟨b10, 0, none⟩) (([bOr .u8 (wu8 x5) 128] : List Int).length) 1) (by kernel_rfl) Go.Proofs.Try.underlying68 ty5 (by kernel_rfl) hI (src_own Go.Proofs.Try.underlying68 (hI.mono (pick2 _ _ _)) (one_flat _ (fun _ => rfl))) (ownS_facts (hI.mono (pick2 _ _ _))).2.2 (by unfold LIM at hg11; omega) hg11 ?_)
      intro A12 cp13 w hI
      refine OpsT.pures (r := []) [6] [0, 3] (S' := [(0, .int .i64 x5), (3, .slice A12 ((x6 ++ ([bOr .u8 (wu8 x5) 128] : List Int)).length) cp13)]) (by kernel_rfl) ?_
      refine OpsT.done ?_
      refine Qn.block_normal ?_
      refine Qn.then ?_
      refine CodT.regionL [0, 1, 2] (by kernel_rfl) ?_
      refine OpsT.pures (r := []) [0, 1, 2] [0, 3] (S' := [(0, .int .i64 (bShr .i64 x5 7)), (3, .slice A12 ((x6 ++ ([bOr .u8 (wu8 x5) 128] : List Int)).length) cp13)]) (by kernel_rfl) ?_
      refine OpsT.done ?_
      have hI := hI.mono (pick2 _ _ _)
      have hI := hI.drop
      exact Qn.thenJ fun a ha => ⟨k, Nat.lt_succ_self k, bShr .i64 x5 7, x6 ++ ([bOr .u8 (wu8 x5) 128] : List Int), A12, cp13, h1, ha.keep [0, 3] (by kernel_rfl), hI⟩
    · rw [if_neg hb9] at h1
      refine CodT.no' (b := decide (x5 ≥ 128)) (by kernel_rfl) (by simpa using hb9) ?_
      refine CodT.exit ?_
      refine Qn.exit_then ?_
      refine Qn.exit_then ?_
      refine Qn.block ?_
      have e := someS h1
      subst e
      exact Qn.thenJ fun a ha => ⟨x5, x6, A7, cp8, rfl, ha.keep [0, 3] (by kernel_rfl), hI⟩
  ·
    rintro a w ⟨x1, x2, A3, cp4, rfl, ha, hI⟩
    try dsimp only at h0
    refine Qn.of ?_ ha
    refine Qn.then ?_
    refine CodT.seq ?_
    refine CodT.regionL [0, 1, 2, 3, 4, 5, 6] (by kernel_rfl) ?_
    refine OpsT.pures (r := [3, 4, 5, 6]) [0, 1, 2] [17, 19] (S' := [(17, .slice A3 x2.length cp4), (19, .int .u8 (wu8 x1))]) (by kernel_rfl) ?_
    refine OpsT.cons (Does.buildSlice (en := (cI .u8)) (d := 20) (n := 1) (T := 68) (ps := [(0, .int .u8 (wu8 x1))]) ([wu8 x1] : List Int) (by kernel_rfl) Go.Proofs.Try.underlying68 ty5 (by kernel_rfl) (by kernel_rfl) (by kernel_rfl) (by kernel_rfl) (len_all (fun _ => rfl)) hI ?_)
    intro b14 w hI
    obtain ⟨hg15, h0⟩ := guardS h0
    have hI := hI.mono (pick2 _ _ _)
    refine OpsT.cons (Does.append (d := 21) (t := 68) (tx := 68) (ty := 68) (ys := x2) (zs := ([wu8 x1] : List Int)) (x := .slice (some ⟨b14, 0, none⟩) (([wu8 x1] : List Int).length) 1) (by kernel_rfl) Go.Proofs.Try.underlying68 ty5 (by kernel_rfl) hI (src_own Go.Proofs.Try.underlying68 (hI.mono (pick2 _ _ _)) (one_flat _ (fun _ => rfl))) (ownS_facts (hI.mono (pick2 _ _ _))).2.2 (by unfold LIM at hg15; omega) hg15 ?_)
    intro A16 cp17 w hI
    refine OpsT.cons (Does.b2sOwn (d := 22) (src := 68) (dst := 9) (xs := x2 ++ ([wu8 x1] : List Int)) (by kernel_rfl) Go.Proofs.Try.underlying68 Go.Proofs.Try.underlying5 Go.Proofs.Try.underlying9 hI ?_)
    refine OpsT.pures (r := []) [6] [2] (S' := [(2, .string (strOfNums (x2 ++ ([wu8 x1] : List Int))))]) (by kernel_rfl) ?_
    refine OpsT.done ?_
    refine Qn.then ?_
    refine CodT.ret ?_
    have hI := hI.drop
    have hI := hI.drop
    have e := someS h0
    subst e
    refine Qn.keep [2] (S' := [(2, .string (strOfNums (x2 ++ ([wu8 x1] : List Int))))]) (by kernel_rfl) ?_
    exact post_ret (v := .string (strOfNums (x2 ++ ([wu8 x1] : List Int)))) (fun a ha => RunRes.run (vs := [.string (strOfNums (x2 ++ ([wu8 x1] : List Int)))]) (.tmp (t := 2) (by kernel_rfl) .nil) ha (by kernel_rfl)) ⟨rfl, hI⟩
set_option maxRecDepth 100000 in
set_option maxHeartbeats 4000000 in
/-- (*strings.Builder).copyCheck -/
theorem c103 (w0 w : World) (Z : Hp) (A : HP)  (b_a0 : Nat) (a0_v_addr : Bool) (A_a0_v_buf : Option Addr) (c_a0_v_buf : Nat) (a0_v_buf : (List Int)) (hI : Inv w0 Z w (star (pt b_a0 (.cells ((([selfP b_a0 a0_v_addr, .slice A_a0_v_buf a0_v_buf.length c_a0_v_buf] : List Value))).toArray 115 (0, 0))) (star (ownS 5 (cI .u8) 1 A_a0_v_buf c_a0_v_buf a0_v_buf) A))) (r : (Bool × (List Int))) (h0 : strings_Builder_copyCheck a0_v_addr a0_v_buf = some r) :
    Calls prog 103 #[.pointer (some ⟨b_a0, 0, none⟩)] w (fun e w' => ∃ (A1 : Option Addr) (c1 : Nat), e = .returned (.tuple #[]) ∧ Inv w0 Z w' (star (pt b_a0 (.cells ((([selfP b_a0 r.1, .slice A1 r.2.length c1] : List Value))).toArray 115 (0, 0))) (star (ownS 5 (cI .u8) 1 A1 c1 r.2) A))) := by
  have e4 := calls_intro (R := (fun e w' => ∃ (A1 : Option Addr) (c1 : Nat), e = .returned (.tuple #[]) ∧ Inv w0 Z w' (star (pt b_a0 (.cells ((([selfP b_a0 r.1, .slice A1 r.2.length c1] : List Value))).toArray 115 (0, 0))) (star (ownS 5 (cI .u8) 1 A1 c1 r.2) A)))) (w := w) (args := [.pointer (some ⟨b_a0, 0, none⟩)]) (fn := Go.Proofs.Try.f103) 20 Go.Proofs.Try.func103 (by rfl) Go.Proofs.Try.ntmps103 (by kernel_rfl)
  refine e4 ?_
  clear e4
  unfold strings_Builder_copyCheck at h0
  refine CodT.seq ?_
  refine CodT.regionL [0, 1, 2, 3, 4] (by kernel_rfl) ?_
  refine OpsT.pures (r := [3, 4]) [0, 1, 2] [0, 4] (S' := [(0, .pointer (some ⟨b_a0, 0, none⟩)), (4, .pointer (some ⟨b_a0, 0, none⟩))]) (by kernel_rfl) ?_
  refine OpsT.cons (Does.yi (Yl.load (d := 5) (T := 113) (v := selfP b_a0 a0_v_addr) (by kernel_rfl) (ldB ty113 (l := (([selfP b_a0 a0_v_addr, .slice A_a0_v_buf a0_v_buf.length c_a0_v_buf] : List Value))) (o := 0) (v := selfP b_a0 a0_v_addr) (ent_refl _) (by kernel_rfl))) hI ?_)
  refine OpsT.cons (Does.yi (Yl.eqlSelf (d := 6) (T := 113) (b := b_a0) (t := a0_v_addr) (by kernel_rfl) Go.Proofs.Try.underlying113 (by kernel_rfl)) hI ?_)
  refine OpsT.done ?_
  refine Qn.then ?_
  by_cases hb1 : (!a0_v_addr) = true
  · rw [if_pos hb1] at h0
    refine CodT.yes' (b := !a0_v_addr) (by kernel_rfl) hb1 ?_
    refine CodT.regionL [0, 1, 2, 3, 4, 5, 6, 7] (by kernel_rfl) ?_
    refine OpsT.pures (r := [2, 3, 4, 5, 6, 7]) [0, 1] [7, 8] (S' := [(7, .pointer (some ⟨b_a0, 0, none⟩)), (8, .pointer (some ⟨b_a0, 0, none⟩))]) (by kernel_rfl) ?_
    refine OpsT.cons (Does.yi (Yl.toUns (d := 9) (src := 113) (dst := 167) (b := b_a0) (l := (([selfP b_a0 a0_v_addr, .slice A_a0_v_buf a0_v_buf.length c_a0_v_buf] : List Value))) (by kernel_rfl) Go.Proofs.Try.underlying113 Go.Proofs.Try.underlying167 ty115 (by kernel_rfl) (by kernel_rfl) (fun w hC => (hC.mono (ent_refl _)).block)) hI ?_)
    refine OpsT.cons (Does.ext (d := some 10) (n := 121) (vs := [.pointer (some ⟨b_a0, 0, none⟩)]) (by kernel_rfl) (ext121 _ _) ?_)
    refine OpsT.cons (Does.yi (Yl.fromUns (d := 11) (src := 167) (dst := 113) (b := b_a0) (l := (([selfP b_a0 a0_v_addr, .slice A_a0_v_buf a0_v_buf.length c_a0_v_buf] : List Value))) 2 (by kernel_rfl) Go.Proofs.Try.underlying167 Go.Proofs.Try.underlying113 ty115 (by kernel_rfl) (by kernel_rfl) (fun w hC => (hC.mono (ent_refl _)).block)) hI ?_)
    refine OpsT.pures (r := [7]) [5, 6] [11, 13] (S' := [(11, .pointer (some ⟨b_a0, 0, none⟩)), (13, .pointer (some ⟨b_a0, 0, none⟩))]) (by kernel_rfl) ?_
    refine OpsT.cons (Does.storeLit (T := 113) (b := b_a0) (o := 0) (v := .pointer (some ⟨b_a0, 0, none⟩)) (l := (([selfP b_a0 a0_v_addr, .slice A_a0_v_buf a0_v_buf.length c_a0_v_buf] : List Value))) (vs := ([.pointer (some ⟨b_a0, 0, none⟩)] : List Value)) (L' := (([selfP b_a0 true, .slice A_a0_v_buf a0_v_buf.length c_a0_v_buf] : List Value))) (by kernel_rfl) ty113 hI (by kernel_rfl) (by kernel_rfl) (by kernel_rfl) (by kernel_rfl) (by kernel_rfl) ?_)
    intro w hI
    refine OpsT.done ?_
    have e := someS h0
    subst e
    refine Qn.keep [] (S' := []) (by kernel_rfl) ?_
    exact post_normal (v := .tuple #[]) (fun a ha => RunRes.run (vs := []) .nil ha (by kernel_rfl)) ⟨A_a0_v_buf, c_a0_v_buf, rfl, hI⟩
  · rw [if_neg hb1] at h0
    refine CodT.no' (b := !a0_v_addr) (by kernel_rfl) (by simpa using hb1) ?_
    refine CodT.seq ?_
    refine CodT.regionL [0, 1, 2, 3, 4, 5] (by kernel_rfl) ?_
    refine OpsT.pures (r := [3, 4, 5]) [0, 1, 2] [0, 16] (S' := [(0, .pointer (some ⟨b_a0, 0, none⟩)), (16, .pointer (some ⟨b_a0, 0, none⟩))]) (by kernel_rfl) ?_
    refine OpsT.cons (Does.yi (Yl.load (d := 17) (T := 113) (v := selfP b_a0 a0_v_addr) (by kernel_rfl) (ldB ty113 (l := (([selfP b_a0 a0_v_addr, .slice A_a0_v_buf a0_v_buf.length c_a0_v_buf] : List Value))) (o := 0) (v := selfP b_a0 a0_v_addr) (ent_refl _) (by kernel_rfl))) hI ?_)
    refine OpsT.pures (r := [5]) [4] [17, 18] (S' := [(17, selfP b_a0 a0_v_addr), (18, .pointer (some ⟨b_a0, 0, none⟩))]) (by kernel_rfl) ?_
    refine OpsT.cons (Does.yi (Yl.neqSelf (d := 19) (T := 113) (b := b_a0) (t := a0_v_addr) (by kernel_rfl) Go.Proofs.Try.underlying113 ty115 (by kernel_rfl)) hI ?_)
    refine OpsT.done ?_
    refine Qn.then ?_
    by_cases hb2 : (!a0_v_addr) = true
    · rw [if_pos hb2] at h0
      refine CodT.yes' (b := !a0_v_addr) (by kernel_rfl) hb2 ?_
      cases h0
    · rw [if_neg hb2] at h0
      refine CodT.no' (b := !a0_v_addr) (by kernel_rfl) (by simpa using hb2) ?_
      refine CodT.skip ?_
      have e := someS h0
      subst e
      refine Qn.keep [] (S' := []) (by kernel_rfl) ?_
      exact post_normal (v := .tuple #[]) (fun a ha => RunRes.run (vs := []) .nil ha (by kernel_rfl)) ⟨A_a0_v_buf, c_a0_v_buf, rfl, hI⟩
set_option maxRecDepth 100000 in
set_option maxHeartbeats 4000000 in
/-- (*strings.Builder).WriteString -/
theorem c78 (w0 w : World) (Z : Hp) (A : HP)  (b_a0 : Nat) (a0_v_addr : Bool) (A_a0_v_buf : Option Addr) (c_a0_v_buf : Nat) (a0_v_buf : (List Int)) (a1 : ByteArray) (hI : Inv w0 Z w (star (pt b_a0 (.cells ((([selfP b_a0 a0_v_addr, .slice A_a0_v_buf a0_v_buf.length c_a0_v_buf] : List Value))).toArray 115 (0, 0))) (star (ownS 5 (cI .u8) 1 A_a0_v_buf c_a0_v_buf a0_v_buf) A))) (r : (Int × Dyn117 × Bool × (List Int))) (h0 : strings_Builder_WriteString a0_v_addr a0_v_buf a1 = some r) :
    Calls prog 78 #[.pointer (some ⟨b_a0, 0, none⟩), .string a1] w (fun e w' => ∃ (A1 : Option Addr) (c1 : Nat), e = .returned (.tuple #[.int .i64 r.1, dynV117 r.2.1]) ∧ Inv w0 Z w' (star (pt b_a0 (.cells ((([selfP b_a0 r.2.2.1, .slice A1 r.2.2.2.length c1] : List Value))).toArray 115 (0, 0))) (star (ownS 5 (cI .u8) 1 A1 c1 r.2.2.2) A))) := by
  have e4 := calls_intro (R := (fun e w' => ∃ (A1 : Option Addr) (c1 : Nat), e = .returned (.tuple #[.int .i64 r.1, dynV117 r.2.1]) ∧ Inv w0 Z w' (star (pt b_a0 (.cells ((([selfP b_a0 r.2.2.1, .slice A1 r.2.2.2.length c1] : List Value))).toArray 115 (0, 0))) (star (ownS 5 (cI .u8) 1 A1 c1 r.2.2.2) A)))) (w := w) (args := [.pointer (some ⟨b_a0, 0, none⟩), .string a1]) (fn := Go.Proofs.Try.f78) 19 Go.Proofs.Try.func78 (by rfl) Go.Proofs.Try.ntmps78 (by kernel_rfl)
  refine e4 ?_
  clear e4
  unfold strings_Builder_WriteString at h0
  refine CodT.seq ?_
  refine CodT.regionL [0, 1] (by kernel_rfl) ?_
  refine OpsT.pures (r := []) [0, 1] [0, 1] (S' := [(0, .pointer (some ⟨b_a0, 0, none⟩)), (1, .string a1)]) (by kernel_rfl) ?_
  refine OpsT.done ?_
  refine Qn.then ?_
  refine CodT.seq ?_
  refine CodT.regionL [0, 1] (by kernel_rfl) ?_
  refine OpsT.pures (r := [1]) [0] [0, 1, 6] (S' := [(0, .pointer (some ⟨b_a0, 0, none⟩)), (1, .string a1), (6, .pointer (some ⟨b_a0, 0, none⟩))]) (by kernel_rfl) ?_
  have hI := hI.mono (pick2 _ _ _)
  have hI := hI.mono (pick2 _ _ _)
  obtain ⟨⟨y2, y3⟩, hc1, h0⟩ := bindS h0
  try dsimp only at h0
  refine OpsT.cons (Does.call (d := some 7) (n := 103) (vs := [.pointer (some ⟨b_a0, 0, none⟩)]) (by kernel_rfl) en103 (c103 w0 w _ _ b_a0 a0_v_addr A_a0_v_buf c_a0_v_buf a0_v_buf hI _ hc1) ?_)
  rintro e w ⟨A4, cp5, rfl, hI⟩
  refine ⟨_, rfl, ?_⟩
  refine OpsT.done ?_
  refine Qn.then ?_
  refine CodT.seq ?_
  refine CodT.regionL [0, 1, 2, 3, 4, 5, 6, 7, 8, 9] (by kernel_rfl) ?_
  refine OpsT.pures (r := [4, 5, 6, 7, 8, 9]) [0, 1, 2, 3] [1, 8, 11] (S' := [(1, .string a1), (8, .pointer (some ⟨b_a0, 0, none⟩)), (11, .pointer (some ⟨b_a0, 1, none⟩))]) (by kernel_rfl) ?_
  refine OpsT.cons (Does.yi (Yl.load (d := 12) (T := 68) (v := .slice A4 y3.length cp5) (by kernel_rfl) (ldB ty68 (l := (([selfP b_a0 y2, .slice A4 y3.length cp5] : List Value))) (o := 1) (v := .slice A4 y3.length cp5) (ent_refl _) (by kernel_rfl))) hI ?_)
  refine OpsT.pures (r := [6, 7, 8, 9]) [5] [1, 8, 12, 13] (S' := [(1, .string a1), (8, .pointer (some ⟨b_a0, 0, none⟩)), (12, .slice A4 y3.length cp5), (13, .string a1)]) (by kernel_rfl) ?_
  obtain ⟨hg6, h0⟩ := guardS h0
  have hI := hI.mono (pick2 _ _ _)
  refine OpsT.cons (Does.append (d := 14) (t := 68) (tx := 9) (ty := 68) (ys := y3) (zs := byts a1) (x := .string a1) (by kernel_rfl) Go.Proofs.Try.underlying68 ty5 (by kernel_rfl) hI (src_str Go.Proofs.Try.underlying9 _) (fun _ _ => rfl) (by unfold LIM at hg6; omega) hg6 ?_)
  intro A7 cp8 w hI
  refine OpsT.pures (r := [9]) [7, 8] [1, 14, 16] (S' := [(1, .string a1), (14, .slice A7 ((y3 ++ (byts a1)).length) cp8), (16, .pointer (some ⟨b_a0, 1, none⟩))]) (by kernel_rfl) ?_
  have hI := hI.mono (pick2 _ _ _)
  refine OpsT.cons (Does.storeLit (T := 68) (b := b_a0) (o := 1) (v := .slice A7 ((y3 ++ (byts a1)).length) cp8) (l := (([selfP b_a0 y2, .slice A4 y3.length cp5] : List Value))) (vs := ([.slice A7 ((y3 ++ (byts a1)).length) cp8] : List Value)) (L' := (([selfP b_a0 y2, .slice A7 ((y3 ++ (byts a1)).length) cp8] : List Value))) (by kernel_rfl) ty68 hI (by kernel_rfl) (by kernel_rfl) (by kernel_rfl) (by kernel_rfl) (by kernel_rfl) ?_)
  intro w hI
  refine OpsT.done ?_
  refine Qn.then ?_
  refine CodT.seq ?_
  refine CodT.regionL [0, 1, 2, 3] (by kernel_rfl) ?_
  refine OpsT.pures (r := []) [0, 1, 2, 3] [4, 5] (S' := [(4, .int .i64 (a1.size : Int)), (5, .nilIface)]) (by kernel_rfl) ?_
  refine OpsT.done ?_
  refine Qn.then ?_
  refine CodT.ret ?_
  have e := someS h0
  subst e
  refine Qn.keep [4, 5] (S' := [(4, .int .i64 (a1.size : Int)), (5, .nilIface)]) (by kernel_rfl) ?_
  exact post_ret (v := .tuple #[.int .i64 (a1.size : Int), .nilIface]) (fun a ha => RunRes.run (vs := [.int .i64 (a1.size : Int), .nilIface]) (.tmp (t := 4) (by kernel_rfl) (.tmp (t := 5) (by kernel_rfl) .nil)) ha (by kernel_rfl)) ⟨A7, cp8, rfl, hI⟩
set_option maxRecDepth 100000 in
set_option maxHeartbeats 4000000 in
/-- (*strings.Builder).String -/
theorem c79 (w0 w : World) (Z : Hp) (A : HP)  (b_a0 : Nat) (a0_v_addr : Bool) (A_a0_v_buf : Option Addr) (c_a0_v_buf : Nat) (a0_v_buf : (List Int)) (hI : Inv w0 Z w (star (pt b_a0 (.cells ((([selfP b_a0 a0_v_addr, .slice A_a0_v_buf a0_v_buf.length c_a0_v_buf] : List Value))).toArray 115 (0, 0))) (star (ownS 5 (cI .u8) 1 A_a0_v_buf c_a0_v_buf a0_v_buf) A))) (r : (ByteArray × Bool × (List Int))) (h0 : strings_Builder_String a0_v_addr a0_v_buf = some r) :
    Calls prog 79 #[.pointer (some ⟨b_a0, 0, none⟩)] w (fun e w' => ∃ (A1 : Option Addr) (c1 : Nat) (Z' : Hp), Z.le Z' ∧ e = .returned (.string r.1) ∧ RdS Z' (cI .u8) 1 A1 c1 r.2.2 ∧ Inv w0 Z' w' (star (pt b_a0 (.cells ((([selfP b_a0 r.2.1, .slice A1 r.2.2.length c1] : List Value))).toArray 115 (0, 0))) A)) := by
  have e4 := calls_intro (R := (fun e w' => ∃ (A1 : Option Addr) (c1 : Nat) (Z' : Hp), Z.le Z' ∧ e = .returned (.string r.1) ∧ RdS Z' (cI .u8) 1 A1 c1 r.2.2 ∧ Inv w0 Z' w' (star (pt b_a0 (.cells ((([selfP b_a0 r.2.1, .slice A1 r.2.2.length c1] : List Value))).toArray 115 (0, 0))) A))) (w := w) (args := [.pointer (some ⟨b_a0, 0, none⟩)]) (fn := Go.Proofs.Try.f79) 14 Go.Proofs.Try.func79 (by rfl) Go.Proofs.Try.ntmps79 (by kernel_rfl)
  refine e4 ?_
  clear e4
  unfold strings_Builder_String at h0
  refine CodT.seq ?_
  refine CodT.regionL [0] (by kernel_rfl) ?_
  refine OpsT.pures (r := []) [0] [0] (S' := [(0, .pointer (some ⟨b_a0, 0, none⟩))]) (by kernel_rfl) ?_
  refine OpsT.done ?_
  refine Qn.then ?_
  refine CodT.seq ?_
  refine CodT.drawI (n := 12) [10] (by kernel_rfl) (by kernel_rfl) hI ?_
  intro w hI
  refine GmT.p' 0 3 (.pointer (some ⟨b_a0, 0, none⟩)) (by kernel_rfl) (by kernel_rfl) ?_
  refine GmT.p' 1 4 (.pointer (some ⟨b_a0, 0, none⟩)) (by kernel_rfl) (by kernel_rfl) ?_
  refine GmT.p' 2 5 (.pointer (some ⟨b_a0, 1, none⟩)) (by kernel_rfl) (by kernel_rfl) ?_
  refine GmT.p' 5 8 (.pointer (some ⟨b_a0, 0, none⟩)) (by kernel_rfl) (by kernel_rfl) ?_
  refine GmT.p' 6 9 (.pointer (some ⟨b_a0, 0, none⟩)) (by kernel_rfl) (by kernel_rfl) ?_
  refine GmT.p' 7 10 (.pointer (some ⟨b_a0, 1, none⟩)) (by kernel_rfl) (by kernel_rfl) ?_
  refine GmT.r (i := 3) 3 (by kernel_rfl) (by kernel_rfl) (Yl.load (d := 6) (T := 68) (v := .slice A_a0_v_buf a0_v_buf.length c_a0_v_buf) (by kernel_rfl) (ldB ty68 (l := (([selfP b_a0 a0_v_addr, .slice A_a0_v_buf a0_v_buf.length c_a0_v_buf] : List Value))) (o := 1) (v := .slice A_a0_v_buf a0_v_buf.length c_a0_v_buf) (ent_refl _) (by kernel_rfl))) hI ?_
  refine GmT.r (i := 8) 3 (by kernel_rfl) (by kernel_rfl) (Yl.load (d := 11) (T := 68) (v := .slice A_a0_v_buf a0_v_buf.length c_a0_v_buf) (by kernel_rfl) (ldB ty68 (l := (([selfP b_a0 a0_v_addr, .slice A_a0_v_buf a0_v_buf.length c_a0_v_buf] : List Value))) (o := 1) (v := .slice A_a0_v_buf a0_v_buf.length c_a0_v_buf) (ent_refl _) (by kernel_rfl))) hI ?_
  refine GmT.p' 9 12 (.int .i64 (a0_v_buf.length : Int)) (by kernel_rfl) (by kernel_rfl) ?_
  have hI := hI.mono (pick2 _ _ _)
  refine GmT.o (i := 4) (by kernel_rfl) (Does.sliceData (d := 7) (t := 68) (ty := 147) (ys := a0_v_buf) (by kernel_rfl) Go.Proofs.Try.underlying147 hI ?_)
  intro q1 w hq2 hI
  have hC := hI
  have hC := hC.mono (pick2 _ _ _)
  refine ⟨fun _ _ => hC, ?_⟩
  obtain ⟨hg3, h0⟩ := guardS h0
  refine GmT.o (i := 10) (by kernel_rfl) (Does.unsafeStr (d := 13) (t := 147) (it := 3) (ty := 9) (xs := a0_v_buf) (by kernel_rfl) Go.Proofs.Try.underlying147 (by kernel_rfl) hq2 (bytesOk_spec hg3) hI ?_)
  intro Z4 w hle5 hr6 hI
  refine ⟨fun h => absurd h (by decide), ?_⟩
  refine GmT.p' 11 2 (.string (strOfNums a0_v_buf)) (by kernel_rfl) (by kernel_rfl) ?_
  refine GmT.done (by kernel_rfl) ?_
  refine Qn.then ?_
  refine CodT.ret ?_
  have e := someS h0
  subst e
  refine Qn.keep [2] (S' := [(2, .string (strOfNums a0_v_buf))]) (by kernel_rfl) ?_
  exact post_ret (v := .string (strOfNums a0_v_buf)) (fun a ha => RunRes.run (vs := [.string (strOfNums a0_v_buf)]) (.tmp (t := 2) (by kernel_rfl) .nil) ha (by kernel_rfl)) ⟨A_a0_v_buf, c_a0_v_buf, Z4, hle5, rfl, hr6, hI⟩
set_option maxRecDepth 100000 in
set_option maxHeartbeats 4000000 in
/-- cenotaph/root.bytes -/
theorem c47 (w0 w : World) (Z : Hp) (A : HP) (hI : Inv w0 Z w A) (A_a0_Map : Option Addr) (c_a0_Map : Nat) (a0_Map : (List RootEntry)) (hr_a0_Map : RdS Z c_RootEntry 4 A_a0_Map c_a0_Map a0_Map) (A_a0_Gone : Option Addr) (c_a0_Gone : Nat) (a0_Gone : (List Int)) (hr_a0_Gone : RdS Z (cI .i64) 1 A_a0_Gone c_a0_Gone a0_Gone) (r : ByteArray) (h0 : root_bytes a0_Map a0_Gone = some r) :
    Calls prog 47 #[.agg ((([.slice A_a0_Map a0_Map.length c_a0_Map, .slice A_a0_Gone a0_Gone.length c_a0_Gone] : List Value))).toArray] w (fun e w' => e = .returned (.string r) ∧ Inv w0 Z w' A) := by
  have e4 := calls_intro (R := (fun e w' => e = .returned (.string r) ∧ Inv w0 Z w' A)) (w := w) (args := [.agg ((([.slice A_a0_Map a0_Map.length c_a0_Map, .slice A_a0_Gone a0_Gone.length c_a0_Gone] : List Value))).toArray]) (fn := Go.Proofs.Try.f47) 52 Go.Proofs.Try.func47 (by rfl) Go.Proofs.Try.ntmps47 (by kernel_rfl)
  refine e4 ?_
  clear e4
  unfold root_bytes at h0
  refine CodT.seq ?_
  refine CodT.regionL [0, 1] (by kernel_rfl) ?_
  refine OpsT.cons (Does.boxL (d := 1) (T := 25) (v := .agg ((([.slice A_a0_Map a0_Map.length c_a0_Map, .slice A_a0_Gone a0_Gone.length c_a0_Gone] : List Value))).toArray) ((([.slice A_a0_Map a0_Map.length c_a0_Map, .slice A_a0_Gone a0_Gone.length c_a0_Gone] : List Value))) (by kernel_rfl) hI (by kernel_rfl) ?_)
  intro b1 w hI
  refine OpsT.pures (r := []) [1] [1] (S' := [(1, .pointer (some ⟨b1, 0, none⟩))]) (by kernel_rfl) ?_
  refine OpsT.done ?_
  refine Qn.then ?_
  refine CodT.seq ?_
  refine CodT.regionL [0, 1, 2, 3, 4] (by kernel_rfl) ?_
  refine OpsT.pures (r := [1, 2, 3, 4]) [0] [1, 9] (S' := [(1, .pointer (some ⟨b1, 0, none⟩)), (9, .pointer (some ⟨b1, 0, none⟩))]) (by kernel_rfl) ?_
  refine OpsT.cons (Does.yi (Yl.load (d := 10) (T := 22) (v := .slice A_a0_Map a0_Map.length c_a0_Map) (by kernel_rfl) (ldB ty22 (l := (([.slice A_a0_Map a0_Map.length c_a0_Map, .slice A_a0_Gone a0_Gone.length c_a0_Gone] : List Value))) (o := 0) (v := .slice A_a0_Map a0_Map.length c_a0_Map) (ent_refl _) (by kernel_rfl))) hI ?_)
  refine OpsT.pures (r := [3, 4]) [2] [1, 11] (S' := [(1, .pointer (some ⟨b1, 0, none⟩)), (11, .int .i64 (a0_Map.length : Int))]) (by kernel_rfl) ?_
  refine OpsT.cons (Does.buildSlice (en := (cI .i64)) (d := 12) (n := 1) (T := 23) (ps := [(0, .int .i64 (a0_Map.length : Int))]) ([(a0_Map.length : Int)] : List Int) (by kernel_rfl) Go.Proofs.Try.underlying23 ty3 (by kernel_rfl) (by kernel_rfl) (by kernel_rfl) (by kernel_rfl) (len_all (fun _ => rfl)) hI ?_)
  intro b2 w hI
  refine OpsT.pures (r := []) [4] [1, 3] (S' := [(1, .pointer (some ⟨b1, 0, none⟩)), (3, .slice (some ⟨b2, 0, none⟩) (([(a0_Map.length : Int)] : List Int).length) 1)]) (by kernel_rfl) ?_
  refine OpsT.done ?_
  refine Qn.then ?_
  refine CodT.seq ?_
  refine CodT.seq ?_
  refine CodT.regionL [0, 1, 2, 3] (by kernel_rfl) ?_
  refine OpsT.pures (r := [1, 2, 3]) [0] [1, 3, 13] (S' := [(1, .pointer (some ⟨b1, 0, none⟩)), (3, .slice (some ⟨b2, 0, none⟩) (([(a0_Map.length : Int)] : List Int).length) 1), (13, .pointer (some ⟨b1, 0, none⟩))]) (by kernel_rfl) ?_
  refine OpsT.cons (Does.yi (Yl.load (d := 14) (T := 22) (v := .slice A_a0_Map a0_Map.length c_a0_Map) (by kernel_rfl) (ldB ty22 (l := (([.slice A_a0_Map a0_Map.length c_a0_Map, .slice A_a0_Gone a0_Gone.length c_a0_Gone] : List Value))) (o := 0) (v := .slice A_a0_Map a0_Map.length c_a0_Map) (pick2 _ _ _) (by kernel_rfl))) hI ?_)
  refine OpsT.pures (r := []) [2, 3] [1, 3, 14, 15, 16] (S' := [(1, .pointer (some ⟨b1, 0, none⟩)), (3, .slice (some ⟨b2, 0, none⟩) (([(a0_Map.length : Int)] : List Int).length) 1), (14, .slice A_a0_Map a0_Map.length c_a0_Map), (15, .int .i64 (a0_Map.length : Int)), (16, .int .i64 0)]) (by kernel_rfl) ?_
  refine OpsT.done ?_
  refine Qn.then ?_
  obtain ⟨r1, h1, h0⟩ := bindS h0
  refine CodT.meet1 (fun a w => ∃ (x3 : (List Int)) (A4 : Option Addr) (cp5 : Nat), x3 = r1 ∧ Fr 52 [(1, .pointer (some ⟨b1, 0, none⟩)), (3, .slice A4 x3.length cp5)] a ∧ Inv w0 Z w (star (ownS 3 (cI .i64) 1 A4 cp5 x3) (star (pt b1 (.cells ((([.slice A_a0_Map a0_Map.length c_a0_Map, .slice A_a0_Gone a0_Gone.length c_a0_Gone] : List Value))).toArray 25 (0, 0))) A))) ?_ ?_
  ·
    refine CodT.block ?_
    refine (fun a ha => wp_loopN (fun k a w => ∃ (x6 : (List Int)) (x9 : Int) (A7 : Option Addr) (cp8 : Nat), root_bytes.l0 a0_Map k x6 x9 = some r1 ∧ Fr 52 [(1, .pointer (some ⟨b1, 0, none⟩)), (3, .slice A7 x6.length cp8), (14, .slice A_a0_Map a0_Map.length c_a0_Map), (15, .int .i64 (a0_Map.length : Int)), (16, .int .i64 x9)] a ∧ Inv w0 Z w (star (ownS 3 (cI .i64) 1 A7 cp8 x6) (star (pt b1 (.cells ((([.slice A_a0_Map a0_Map.length c_a0_Map, .slice A_a0_Gone a0_Gone.length c_a0_Gone] : List Value))).toArray 25 (0, 0))) A))) ?_ FU a w ⟨([(a0_Map.length : Int)] : List Int), 0, (some ⟨b2, 0, none⟩), 1, h1, ha.keep [1, 3, 14, 15, 16] (by kernel_rfl), hI⟩)
    clear h1 hI
    rintro k a w ⟨x6, x9, A7, cp8, h1, ha, hI⟩
    rcases k with _ | k
    · cases h1
    simp only [root_bytes.l0] at h1
    refine CodT.of ?_ ha
    refine CodT.seq ?_
    refine CodT.regionL [0] (by kernel_rfl) ?_
    refine OpsT.pures (r := []) [0] [1, 3, 14, 15, 16, 17] (S' := [(1, .pointer (some ⟨b1, 0, none⟩)), (3, .slice A7 x6.length cp8), (14, .slice A_a0_Map a0_Map.length c_a0_Map), (15, .int .i64 (a0_Map.length : Int)), (16, .int .i64 x9), (17, .bool (decide (x9 < (a0_Map.length : Int))))]) (by kernel_rfl) ?_
    refine OpsT.done ?_
    refine Qn.then ?_
    refine CodT.seq ?_
    by_cases hb10 : (decide (x9 < (a0_Map.length : Int))) = true
    · rw [if_pos hb10] at h1
      refine CodT.yes' (b := decide (x9 < (a0_Map.length : Int))) (by kernel_rfl) hb10 ?_
      refine CodT.skip ?_
      refine Qn.then ?_
      refine CodT.seq ?_
      refine CodT.block ?_
      refine CodT.seq ?_
      refine CodT.regionL [0, 1, 2, 3] (by kernel_rfl) ?_
      obtain ⟨hg11, h1⟩ := guardS h1
      obtain ⟨g12, o16, hA13, hr14, hl15⟩ := RdS.get hr_a0_Map hg11.1 hg11.2
      refine OpsT.cons (Does.yi (Yl.indexSlice (d := 18) (T := 22) (cc := c_a0_Map) (k := .i64) (j := x9) (g := g12) (o := o16) (by kernel_rfl) Go.Proofs.Try.underlying22 ty47 hA13 hg11.1 hg11.2) hI ?_)
      refine OpsT.cons (Does.yi (Yl.load (d := 19) (T := 47) (v := .agg (c_RootEntry (gt a0_Map x9)).toArray) (by kernel_rfl) (ldRN ty47 (cs := c_RootEntry (gt a0_Map x9)) 0 (fun w hC => hr14 w0 w _ hC) hl15 (whole _ _ hl15))) hI ?_)
      refine OpsT.cons (Does.allocL (d := 5) (T := 47) (c_RootEntry (RootEntry.mk 0 0 0 0)) (by kernel_rfl) ty47 hI (by kernel_rfl) ?_)
      intro b17 w hI
      refine OpsT.cons (Does.storeLit (T := 47) (b := b17) (o := 0) (v := .agg (c_RootEntry (gt a0_Map x9)).toArray) (l := c_RootEntry (RootEntry.mk 0 0 0 0)) (vs := c_RootEntry (gt a0_Map x9)) (L' := c_RootEntry (gt a0_Map x9)) (by kernel_rfl) ty47 hI (by kernel_rfl) (by kernel_rfl) (by kernel_rfl) (by kernel_rfl) (by kernel_rfl) ?_)
      intro w hI
      refine OpsT.done ?_
      refine Qn.then ?_
      refine CodT.regionL [0, 1, 2, 3, 4, 5, 6, 7, 8, 9, 10, 11] (by kernel_rfl) ?_
      refine OpsT.pures (r := [2, 3, 4, 5, 6, 7, 8, 9, 10, 11]) [0, 1] [1, 5, 14, 15, 16, 20, 21] (S' := [(1, .pointer (some ⟨b1, 0, none⟩)), (5, .pointer (some ⟨b17, 0, none⟩)), (14, .slice A_a0_Map a0_Map.length c_a0_Map), (15, .int .i64 (a0_Map.length : Int)), (16, .int .i64 x9), (20, .slice A7 x6.length cp8), (21, .pointer (some ⟨b17, 0, none⟩))]) (by kernel_rfl) ?_
      refine OpsT.cons (Does.yi (Yl.load (d := 22) (T := 3) (v := .int .i64 ((gt a0_Map x9).Logic)) (by kernel_rfl) (ldB ty3 (l := c_RootEntry (gt a0_Map x9)) (o := 0) (v := .int .i64 ((gt a0_Map x9).Logic)) (ent_refl _) (by kernel_rfl))) hI ?_)
      refine OpsT.pures (r := [4, 5, 6, 7, 8, 9, 10, 11]) [3] [1, 5, 14, 15, 16, 20, 22, 23] (S' := [(1, .pointer (some ⟨b1, 0, none⟩)), (5, .pointer (some ⟨b17, 0, none⟩)), (14, .slice A_a0_Map a0_Map.length c_a0_Map), (15, .int .i64 (a0_Map.length : Int)), (16, .int .i64 x9), (20, .slice A7 x6.length cp8), (22, .int .i64 ((gt a0_Map x9).Logic)), (23, .pointer (some ⟨b17, 1, none⟩))]) (by kernel_rfl) ?_
      refine OpsT.cons (Does.yi (Yl.load (d := 24) (T := 3) (v := .int .i64 ((gt a0_Map x9).Owner)) (by kernel_rfl) (ldB ty3 (l := c_RootEntry (gt a0_Map x9)) (o := 1) (v := .int .i64 ((gt a0_Map x9).Owner)) (ent_refl _) (by kernel_rfl))) hI ?_)
      refine OpsT.pures (r := [6, 7, 8, 9, 10, 11]) [5] [1, 5, 14, 15, 16, 20, 22, 24, 25] (S' := [(1, .pointer (some ⟨b1, 0, none⟩)), (5, .pointer (some ⟨b17, 0, none⟩)), (14, .slice A_a0_Map a0_Map.length c_a0_Map), (15, .int .i64 (a0_Map.length : Int)), (16, .int .i64 x9), (20, .slice A7 x6.length cp8), (22, .int .i64 ((gt a0_Map x9).Logic)), (24, .int .i64 ((gt a0_Map x9).Owner)), (25, .pointer (some ⟨b17, 2, none⟩))]) (by kernel_rfl) ?_
      refine OpsT.cons (Does.yi (Yl.load (d := 26) (T := 3) (v := .int .i64 ((gt a0_Map x9).Block)) (by kernel_rfl) (ldB ty3 (l := c_RootEntry (gt a0_Map x9)) (o := 2) (v := .int .i64 ((gt a0_Map x9).Block)) (ent_refl _) (by kernel_rfl))) hI ?_)
      refine OpsT.pures (r := [8, 9, 10, 11]) [7] [1, 14, 15, 16, 20, 22, 24, 26, 27] (S' := [(1, .pointer (some ⟨b1, 0, none⟩)), (14, .slice A_a0_Map a0_Map.length c_a0_Map), (15, .int .i64 (a0_Map.length : Int)), (16, .int .i64 x9), (20, .slice A7 x6.length cp8), (22, .int .i64 ((gt a0_Map x9).Logic)), (24, .int .i64 ((gt a0_Map x9).Owner)), (26, .int .i64 ((gt a0_Map x9).Block)), (27, .pointer (some ⟨b17, 3, none⟩))]) (by kernel_rfl) ?_
      refine OpsT.cons (Does.yi (Yl.load (d := 28) (T := 3) (v := .int .i64 ((gt a0_Map x9).At)) (by kernel_rfl) (ldB ty3 (l := c_RootEntry (gt a0_Map x9)) (o := 3) (v := .int .i64 ((gt a0_Map x9).At)) (ent_refl _) (by kernel_rfl))) hI ?_)
      refine OpsT.cons (Does.buildSlice (en := (cI .i64)) (d := 29) (n := 4) (T := 23) (ps := [(0, .int .i64 ((gt a0_Map x9).Logic)), (1, .int .i64 ((gt a0_Map x9).Owner)), (2, .int .i64 ((gt a0_Map x9).Block)), (3, .int .i64 ((gt a0_Map x9).At))]) ([(gt a0_Map x9).Logic, (gt a0_Map x9).Owner, (gt a0_Map x9).Block, (gt a0_Map x9).At] : List Int) (by kernel_rfl) Go.Proofs.Try.underlying23 ty3 (by kernel_rfl) (by kernel_rfl) (by kernel_rfl) (by kernel_rfl) (len_all (fun _ => rfl)) hI ?_)
      intro b18 w hI
      obtain ⟨hg19, h1⟩ := guardS h1
      have hI := hI.mono (pick3 _ _ _ _)
      refine OpsT.cons (Does.append (d := 30) (t := 23) (tx := 23) (ty := 23) (ys := x6) (zs := ([(gt a0_Map x9).Logic, (gt a0_Map x9).Owner, (gt a0_Map x9).Block, (gt a0_Map x9).At] : List Int)) (x := .slice (some ⟨b18, 0, none⟩) (([(gt a0_Map x9).Logic, (gt a0_Map x9).Owner, (gt a0_Map x9).Block, (gt a0_Map x9).At] : List Int).length) 4) (by kernel_rfl) Go.Proofs.Try.underlying23 ty3 (by kernel_rfl) hI (src_own Go.Proofs.Try.underlying23 (hI.mono (pick2 _ _ _)) (one_flat _ (fun _ => rfl))) (ownS_facts (hI.mono (pick2 _ _ _))).2.2 (by unfold LIM at hg19; omega) hg19 ?_)
      intro A20 cp21 w hI
      refine OpsT.pures (r := []) [11] [1, 3, 14, 15, 16] (S' := [(1, .pointer (some ⟨b1, 0, none⟩)), (3, .slice A20 ((x6 ++ ([(gt a0_Map x9).Logic, (gt a0_Map x9).Owner, (gt a0_Map x9).Block, (gt a0_Map x9).At] : List Int)).length) cp21), (14, .slice A_a0_Map a0_Map.length c_a0_Map), (15, .int .i64 (a0_Map.length : Int)), (16, .int .i64 x9)]) (by kernel_rfl) ?_
      refine OpsT.done ?_
      refine Qn.block_normal ?_
      refine Qn.then ?_
      refine CodT.regionL [0, 1] (by kernel_rfl) ?_
      refine OpsT.pures (r := []) [0, 1] [1, 3, 14, 15, 16] (S' := [(1, .pointer (some ⟨b1, 0, none⟩)), (3, .slice A20 ((x6 ++ ([(gt a0_Map x9).Logic, (gt a0_Map x9).Owner, (gt a0_Map x9).Block, (gt a0_Map x9).At] : List Int)).length) cp21), (14, .slice A_a0_Map a0_Map.length c_a0_Map), (15, .int .i64 (a0_Map.length : Int)), (16, .int .i64 (wi64 (x9 + 1)))]) (by kernel_rfl) ?_
      refine OpsT.done ?_
      have hI := hI.mono (pick2 _ _ _)
      have hI := hI.drop
      have hI := hI.mono (pick2 _ _ _)
      have hI := hI.drop
      exact Qn.thenJ fun a ha => ⟨k, Nat.lt_succ_self k, x6 ++ ([(gt a0_Map x9).Logic, (gt a0_Map x9).Owner, (gt a0_Map x9).Block, (gt a0_Map x9).At] : List Int), wi64 (x9 + 1), A20, cp21, h1, ha.keep [1, 3, 14, 15, 16] (by kernel_rfl), hI⟩
    · rw [if_neg hb10] at h1
      refine CodT.no' (b := decide (x9 < (a0_Map.length : Int))) (by kernel_rfl) (by simpa using hb10) ?_
      refine CodT.exit ?_
      refine Qn.exit_then ?_
      refine Qn.exit_then ?_
      refine Qn.block ?_
      have e := someS h1
      subst e
      exact Qn.thenJ fun a ha => ⟨x6, A7, cp8, rfl, ha.keep [1, 3] (by kernel_rfl), hI⟩
  ·
    rintro a w ⟨x3, A4, cp5, rfl, ha, hI⟩
    try dsimp only at h0
    refine Qn.of ?_ ha
    refine Qn.then ?_
    refine CodT.seq ?_
    refine CodT.drawC (n := 10) (B := (star (pt b1 (.cells ((([.slice A_a0_Map a0_Map.length c_a0_Map, .slice A_a0_Gone a0_Gone.length c_a0_Gone] : List Value))).toArray 25 (0, 0))) A)) [] (by kernel_rfl) (by kernel_rfl) hI ?_
    intro w hI
    refine GmT.p' 0 32 (.slice A4 x3.length cp5) (by kernel_rfl) (by kernel_rfl) ?_
    refine GmT.p' 1 33 (.pointer (some ⟨b1, 1, none⟩)) (by kernel_rfl) (by kernel_rfl) ?_
    refine GmT.p' 6 38 (.pointer (some ⟨b1, 1, none⟩)) (by kernel_rfl) (by kernel_rfl) ?_
    have hC := hI
    have hC := hC.drop
    refine GmT.r (i := 2) 2 (by kernel_rfl) (by kernel_rfl) (Yl.load (d := 34) (T := 23) (v := .slice A_a0_Gone a0_Gone.length c_a0_Gone) (by kernel_rfl) (ldB ty23 (l := (([.slice A_a0_Map a0_Map.length c_a0_Map, .slice A_a0_Gone a0_Gone.length c_a0_Gone] : List Value))) (o := 1) (v := .slice A_a0_Gone a0_Gone.length c_a0_Gone) (ent_refl _) (by kernel_rfl))) hC ?_
    refine GmT.p' 3 35 (.int .i64 (a0_Gone.length : Int)) (by kernel_rfl) (by kernel_rfl) ?_
    have hC := hI
    have hC := hC.drop
    refine GmT.r (i := 7) 2 (by kernel_rfl) (by kernel_rfl) (Yl.load (d := 39) (T := 23) (v := .slice A_a0_Gone a0_Gone.length c_a0_Gone) (by kernel_rfl) (ldB ty23 (l := (([.slice A_a0_Map a0_Map.length c_a0_Map, .slice A_a0_Gone a0_Gone.length c_a0_Gone] : List Value))) (o := 1) (v := .slice A_a0_Gone a0_Gone.length c_a0_Gone) (ent_refl _) (by kernel_rfl))) hC ?_
    refine GmT.o (i := 4) (by kernel_rfl) (Does.buildSlice (en := (cI .i64)) (d := 36) (n := 1) (T := 23) (ps := [(0, .int .i64 (a0_Gone.length : Int))]) ([(a0_Gone.length : Int)] : List Int) (by kernel_rfl) Go.Proofs.Try.underlying23 ty3 (by kernel_rfl) (by kernel_rfl) (by kernel_rfl) (by kernel_rfl) (len_all (fun _ => rfl)) hI ?_)
    intro b22 w hI
    have hC := hI
    have hC := hC.drop
    have hC := hC.drop
    refine ⟨fun _ _ => hC, ?_⟩
    obtain ⟨hg23, h0⟩ := guardS h0
    have hI := hI.mono (pick2 _ _ _)
    refine GmT.o (i := 5) (by kernel_rfl) (Does.append (d := 37) (t := 23) (tx := 23) (ty := 23) (ys := x3) (zs := ([(a0_Gone.length : Int)] : List Int)) (x := .slice (some ⟨b22, 0, none⟩) (([(a0_Gone.length : Int)] : List Int).length) 1) (by kernel_rfl) Go.Proofs.Try.underlying23 ty3 (by kernel_rfl) hI (src_own Go.Proofs.Try.underlying23 (hI.mono (pick2 _ _ _)) (one_flat _ (fun _ => rfl))) (ownS_facts (hI.mono (pick2 _ _ _))).2.2 (by unfold LIM at hg23; omega) hg23 ?_)
    intro A24 cp25 w hI
    have hC := hI
    have hC := hC.drop
    have hC := hC.drop
    refine ⟨fun _ _ => hC, ?_⟩
    obtain ⟨hg26, h0⟩ := guardS h0
    refine GmT.o (i := 8) (by kernel_rfl) (Does.append (d := 40) (t := 23) (tx := 23) (ty := 23) (ys := x3 ++ ([(a0_Gone.length : Int)] : List Int)) (zs := a0_Gone) (x := .slice A_a0_Gone a0_Gone.length c_a0_Gone) (by kernel_rfl) Go.Proofs.Try.underlying23 ty3 (by kernel_rfl) hI (src_rd Go.Proofs.Try.underlying23 hI hr_a0_Gone (one_flat _ (fun _ => rfl))) hr_a0_Gone.2.2.1 (by unfold LIM at hg26; omega) hg26 ?_)
    intro A27 cp28 w hI
    have hC := hI
    have hC := hC.drop
    have hC := hC.drop
    refine ⟨fun _ _ => hC, ?_⟩
    refine GmT.p' 9 3 (.slice A27 (((x3 ++ ([(a0_Gone.length : Int)] : List Int)) ++ a0_Gone).length) cp28) (by kernel_rfl) (by kernel_rfl) ?_
    refine GmT.done (by kernel_rfl) ?_
    refine Qn.then ?_
    refine CodT.seq ?_
    refine CodT.regionL [0] (by kernel_rfl) ?_
    refine OpsT.cons (Does.allocL (d := 6) (T := 115) [selfP 0 false, .slice none 0 0] (by kernel_rfl) ty115 hI (by kernel_rfl) ?_)
    intro b29 w hI
    replace hI := hI.eqA (A' := (star (pt b29 (.cells ((([selfP b29 false, .slice none 0 0] : List Value))).toArray 115 (0, 0))) (star (ownS 3 (cI .i64) 1 A27 cp28 ((x3 ++ ([(a0_Gone.length : Int)] : List Int)) ++ a0_Gone)) (star (ownS 3 (cI .i64) 1 (some ⟨b22, 0, none⟩) 1 ([(a0_Gone.length : Int)] : List Int)) (star (pt b1 (.cells ((([.slice A_a0_Map a0_Map.length c_a0_Map, .slice A_a0_Gone a0_Gone.length c_a0_Gone] : List Value))).toArray 25 (0, 0))) A))))) rfl
    refine OpsT.done ?_
    refine Qn.then ?_
    refine CodT.seq ?_
    refine CodT.seq ?_
    refine CodT.regionL [0, 1, 2] (by kernel_rfl) ?_
    refine OpsT.pures (r := []) [0, 1, 2] [6, 41, 42, 43] (S' := [(6, .pointer (some ⟨b29, 0, none⟩)), (41, .slice A27 (((x3 ++ ([(a0_Gone.length : Int)] : List Int)) ++ a0_Gone).length) cp28), (42, .int .i64 (((x3 ++ ([(a0_Gone.length : Int)] : List Int)) ++ a0_Gone).length : Int)), (43, .int .i64 0)]) (by kernel_rfl) ?_
    refine OpsT.done ?_
    refine Qn.then ?_
    obtain ⟨r1, h1, h0⟩ := bindS h0
    refine CodT.meet1 (fun a w => ∃ (x30 : Bool) (x31 : (List Int)) (A32 : Option Addr) (cp33 : Nat), (x30, x31) = r1 ∧ Fr 52 [(6, .pointer (some ⟨b29, 0, none⟩))] a ∧ Inv w0 Z w (star (ownS 5 (cI .u8) 1 A32 cp33 x31) (star (pt b29 (.cells ((([selfP b29 x30, .slice A32 x31.length cp33] : List Value))).toArray 115 (0, 0))) A))) ?_ ?_
    ·
      refine CodT.block ?_
      have hI := ownS_nil (α := Int) hI 5 (cI .u8) 1
      have hI := hI.mono (pick4 _ _ _ _ _)
      have hI := hI.drop
      have hI := hI.mono (pick4 _ _ _ _ _)
      have hI := hI.drop
      refine (fun a ha => wp_loopN (fun k a w => ∃ (x34 : Int) (x35 : Bool) (x36 : (List Int)) (A37 : Option Addr) (cp38 : Nat), root_bytes.l1 x3 a0_Gone k x34 x35 x36 = some r1 ∧ Fr 52 [(6, .pointer (some ⟨b29, 0, none⟩)), (41, .slice A27 (((x3 ++ ([(a0_Gone.length : Int)] : List Int)) ++ a0_Gone).length) cp28), (42, .int .i64 (((x3 ++ ([(a0_Gone.length : Int)] : List Int)) ++ a0_Gone).length : Int)), (43, .int .i64 x34)] a ∧ Inv w0 Z w (star (ownS 5 (cI .u8) 1 A37 cp38 x36) (star (pt b29 (.cells ((([selfP b29 x35, .slice A37 x36.length cp38] : List Value))).toArray 115 (0, 0))) (star (ownS 3 (cI .i64) 1 A27 cp28 ((x3 ++ ([(a0_Gone.length : Int)] : List Int)) ++ a0_Gone)) A)))) ?_ FU a w ⟨0, false, ([] : List Int), none, 0, h1, ha.keep [6, 41, 42, 43] (by kernel_rfl), hI⟩)
      clear h1 hI
      rintro k a w ⟨x34, x35, x36, A37, cp38, h1, ha, hI⟩
      rcases k with _ | k
      · cases h1
      simp only [root_bytes.l1] at h1
      refine CodT.of ?_ ha
      refine CodT.seq ?_
      refine CodT.regionL [0] (by kernel_rfl) ?_
      refine OpsT.pures (r := []) [0] [6, 41, 42, 43, 44] (S' := [(6, .pointer (some ⟨b29, 0, none⟩)), (41, .slice A27 (((x3 ++ ([(a0_Gone.length : Int)] : List Int)) ++ a0_Gone).length) cp28), (42, .int .i64 (((x3 ++ ([(a0_Gone.length : Int)] : List Int)) ++ a0_Gone).length : Int)), (43, .int .i64 x34), (44, .bool (decide (x34 < (((x3 ++ ([(a0_Gone.length : Int)] : List Int)) ++ a0_Gone).length : Int))))]) (by kernel_rfl) ?_
      refine OpsT.done ?_
      refine Qn.then ?_
      refine CodT.seq ?_
      by_cases hb39 : (decide (x34 < (((x3 ++ ([(a0_Gone.length : Int)] : List Int)) ++ a0_Gone).length : Int))) = true
      · rw [if_pos hb39] at h1
        refine CodT.yes' (b := decide (x34 < (((x3 ++ ([(a0_Gone.length : Int)] : List Int)) ++ a0_Gone).length : Int))) (by kernel_rfl) hb39 ?_
        refine CodT.skip ?_
        refine Qn.then ?_
        refine CodT.seq ?_
        refine CodT.block ?_
        refine CodT.seq ?_
        refine CodT.regionL [0, 1, 2] (by kernel_rfl) ?_
        obtain ⟨hg40, h1⟩ := guardS h1
        obtain ⟨g41, hA42, hr43, hl44⟩ := ownS_get (hI.mono (pick3 _ _ _ _)) hg40.1 hg40.2
        refine OpsT.cons (Does.yi (Yl.indexSlice (d := 45) (T := 23) (cc := cp28) (k := .i64) (j := x34) (g := g41) (o := 0) (by kernel_rfl) Go.Proofs.Try.underlying23 ty3 hA42 hg40.1 hg40.2) hI ?_)
        refine OpsT.cons (Does.yi (Yl.load (d := 46) (T := 3) (v := .int .i64 (gt ((x3 ++ ([(a0_Gone.length : Int)] : List Int)) ++ a0_Gone) x34)) (by kernel_rfl) (ldR ty3 (v := .int .i64 (gt ((x3 ++ ([(a0_Gone.length : Int)] : List Int)) ++ a0_Gone) x34)) 0 (fun w hC => hr43 w0 w _ (hC.mono (pick3 _ _ _ _))) (by kernel_rfl))) hI ?_)
        refine OpsT.pures (r := []) [2] [6, 8, 41, 42, 43] (S' := [(6, .pointer (some ⟨b29, 0, none⟩)), (8, .int .i64 (gt ((x3 ++ ([(a0_Gone.length : Int)] : List Int)) ++ a0_Gone) x34)), (41, .slice A27 (((x3 ++ ([(a0_Gone.length : Int)] : List Int)) ++ a0_Gone).length) cp28), (42, .int .i64 (((x3 ++ ([(a0_Gone.length : Int)] : List Int)) ++ a0_Gone).length : Int)), (43, .int .i64 x34)]) (by kernel_rfl) ?_
        refine OpsT.done ?_
        refine Qn.then ?_
        refine CodT.regionL [0, 1, 2] (by kernel_rfl) ?_
        refine OpsT.pures (r := [1, 2]) [0] [6, 41, 42, 43, 47] (S' := [(6, .pointer (some ⟨b29, 0, none⟩)), (41, .slice A27 (((x3 ++ ([(a0_Gone.length : Int)] : List Int)) ++ a0_Gone).length) cp28), (42, .int .i64 (((x3 ++ ([(a0_Gone.length : Int)] : List Int)) ++ a0_Gone).length : Int)), (43, .int .i64 x34), (47, .int .i64 (gt ((x3 ++ ([(a0_Gone.length : Int)] : List Int)) ++ a0_Gone) x34))]) (by kernel_rfl) ?_
        obtain ⟨y46, hc45, h1⟩ := bindS h1
        try dsimp only at h1
        refine OpsT.cons (Does.call (d := some 48) (n := 49) (vs := [.int .i64 (gt ((x3 ++ ([(a0_Gone.length : Int)] : List Int)) ++ a0_Gone) x34)]) (by kernel_rfl) en49 (c49 w0 w _ _ hI (gt ((x3 ++ ([(a0_Gone.length : Int)] : List Int)) ++ a0_Gone) x34) _ hc45) ?_)
        rintro e w ⟨rfl, hI⟩
        refine ⟨_, rfl, ?_⟩
        have hI := hI.mono (pick2 _ _ _)
        obtain ⟨⟨y48, y49, y50, y51⟩, hc47, h1⟩ := bindS h1
        try dsimp only at h1
        refine OpsT.cons (Does.call (d := some 49) (n := 78) (vs := [.pointer (some ⟨b29, 0, none⟩), .string y46]) (by kernel_rfl) en78 (c78 w0 w _ _ b29 x35 A37 cp38 x36 y46 hI _ hc47) ?_)
        rintro e w ⟨A52, cp53, rfl, hI⟩
        refine ⟨_, rfl, ?_⟩
        refine OpsT.done ?_
        refine Qn.block_normal ?_
        refine Qn.then ?_
        refine CodT.regionL [0, 1] (by kernel_rfl) ?_
        refine OpsT.pures (r := []) [0, 1] [6, 41, 42, 43] (S' := [(6, .pointer (some ⟨b29, 0, none⟩)), (41, .slice A27 (((x3 ++ ([(a0_Gone.length : Int)] : List Int)) ++ a0_Gone).length) cp28), (42, .int .i64 (((x3 ++ ([(a0_Gone.length : Int)] : List Int)) ++ a0_Gone).length : Int)), (43, .int .i64 (wi64 (x34 + 1)))]) (by kernel_rfl) ?_
        refine OpsT.done ?_
        have hI := hI.mono (pick3 _ _ _ _)
        have hI := hI.mono (pick2 _ _ _)
        have hI := hI.mono (pick3 _ _ _ _)
        exact Qn.thenJ fun a ha => ⟨k, Nat.lt_succ_self k, wi64 (x34 + 1), y50, y51, A52, cp53, h1, ha.keep [6, 41, 42, 43] (by kernel_rfl), hI⟩
      · rw [if_neg hb39] at h1
        refine CodT.no' (b := decide (x34 < (((x3 ++ ([(a0_Gone.length : Int)] : List Int)) ++ a0_Gone).length : Int))) (by kernel_rfl) (by simpa using hb39) ?_
        refine CodT.exit ?_
        refine Qn.exit_then ?_
        refine Qn.exit_then ?_
        refine Qn.block ?_
        have hI := hI.mono (pick3 _ _ _ _)
        have hI := hI.drop
        have e := someS h1
        subst e
        exact Qn.thenJ fun a ha => ⟨x35, x36, A37, cp38, rfl, ha.keep [6] (by kernel_rfl), hI⟩
    ·
      rintro a w ⟨x30, x31, A32, cp33, rfl, ha, hI⟩
      try dsimp only at h0
      refine Qn.of ?_ ha
      refine Qn.then ?_
      refine CodT.seq ?_
      refine CodT.regionL [0, 1] (by kernel_rfl) ?_
      have hI := hI.mono (pick2 _ _ _)
      obtain ⟨⟨y55, y56, y57⟩, hc54, h0⟩ := bindS h0
      try dsimp only at h0
      refine OpsT.cons (Does.call (d := some 51) (n := 79) (vs := [.pointer (some ⟨b29, 0, none⟩)]) (by kernel_rfl) en79 (c79 w0 w _ _ b29 x30 A32 cp33 x31 hI _ hc54) ?_)
      rintro e w ⟨A58, cp59, Z61, hle62, rfl, hr60, hI⟩
      refine ⟨_, rfl, ?_⟩
      refine OpsT.pures (r := []) [1] [2] (S' := [(2, .string y55)]) (by kernel_rfl) ?_
      refine OpsT.done ?_
      refine Qn.then ?_
      refine CodT.ret ?_
      have hI := hI.drop
      have e := someS h0
      subst e
      refine Qn.keep [2] (S' := [(2, .string y55)]) (by kernel_rfl) ?_
      exact post_ret (v := .string y55) (fun a ha => RunRes.run (vs := [.string y55]) (.tmp (t := 2) (by kernel_rfl) .nil) ha (by kernel_rfl)) ⟨rfl, hI.weaken hle62⟩
set_option maxRecDepth 100000 in
set_option maxHeartbeats 4000000 in
/-- cenotaph/root.chunks -/
theorem c48 (w0 w : World) (Z : Hp) (A : HP) (hI : Inv w0 Z w A) (a0 : ByteArray) (a1 : Int) (r : (ByteArray × Int)) (h0 : root_chunks a0 a1 = some r) :
    Calls prog 48 #[.string a0, .int .i64 a1] w (fun e w' => ∃ (b1 : Nat) (b2 : Nat) (Z' : Hp), Z.le Z' ∧ e = .returned (.func (.func 80) #[] #[.pointer (some ⟨b1, 0, none⟩), .pointer (some ⟨b2, 0, none⟩)]) ∧ Z' b2 = some (.cells (([.int .i64 r.2] : List Value)).toArray 3 (0, 0)) ∧ Inv w0 Z' w' (star (pt b1 (.cells (([.string r.1] : List Value)).toArray 9 (0, 0))) A)) := by
  have e4 := calls_intro (R := (fun e w' => ∃ (b1 : Nat) (b2 : Nat) (Z' : Hp), Z.le Z' ∧ e = .returned (.func (.func 80) #[] #[.pointer (some ⟨b1, 0, none⟩), .pointer (some ⟨b2, 0, none⟩)]) ∧ Z' b2 = some (.cells (([.int .i64 r.2] : List Value)).toArray 3 (0, 0)) ∧ Inv w0 Z' w' (star (pt b1 (.cells (([.string r.1] : List Value)).toArray 9 (0, 0))) A))) (w := w) (args := [.string a0, .int .i64 a1]) (fn := Go.Proofs.Try.f48) 6 Go.Proofs.Try.func48 (by rfl) Go.Proofs.Try.ntmps48 (by kernel_rfl)
  refine e4 ?_
  clear e4
  unfold root_chunks at h0
  refine CodT.seq ?_
  refine CodT.regionL [0, 1, 2] (by kernel_rfl) ?_
  refine OpsT.cons (Does.boxL (d := 2) (T := 9) (v := .string a0) (([.string a0] : List Value)) (by kernel_rfl) hI (by kernel_rfl) ?_)
  intro b1 w hI
  refine OpsT.cons (Does.boxL (d := 3) (T := 3) (v := .int .i64 a1) (([.int .i64 a1] : List Value)) (by kernel_rfl) hI (by kernel_rfl) ?_)
  intro b2 w hI
  refine OpsT.pures (r := []) [2] [2, 3] (S' := [(2, .pointer (some ⟨b1, 0, none⟩)), (3, .pointer (some ⟨b2, 0, none⟩))]) (by kernel_rfl) ?_
  refine OpsT.done ?_
  refine Qn.then ?_
  refine CodT.seq ?_
  obtain ⟨Z3, hle4, hz5, hI⟩ := pt_freeze hI
  refine CodT.regionL [0, 1] (by kernel_rfl) ?_
  refine OpsT.pures (r := []) [0, 1] [4] (S' := [(4, .func (.func 80) #[] #[.pointer (some ⟨b1, 0, none⟩), .pointer (some ⟨b2, 0, none⟩)])]) (by kernel_rfl) ?_
  refine OpsT.done ?_
  refine Qn.then ?_
  refine CodT.ret ?_
  have e := someS h0
  subst e
  refine Qn.keep [4] (S' := [(4, .func (.func 80) #[] #[.pointer (some ⟨b1, 0, none⟩), .pointer (some ⟨b2, 0, none⟩)])]) (by kernel_rfl) ?_
  exact post_ret (v := .func (.func 80) #[] #[.pointer (some ⟨b1, 0, none⟩), .pointer (some ⟨b2, 0, none⟩)]) (fun a ha => RunRes.run (vs := [.func (.func 80) #[] #[.pointer (some ⟨b1, 0, none⟩), .pointer (some ⟨b2, 0, none⟩)]]) (.tmp (t := 4) (by kernel_rfl) .nil) ha (by kernel_rfl)) ⟨b1, b2, Z3, hle4, rfl, hz5, hI⟩
set_option maxRecDepth 100000 in
set_option maxHeartbeats 4000000 in
/-- cenotaph/root.chunks$1 -/
theorem c80 (w0 w : World) (Z : Hp) (A : HP)  (l_a0 : Nat) {σ : Type} (J_a0 : σ → HP) (Y_a0 : σ → Int → ByteArray → Option σ) (s_a0 : σ) (hy_a0 : ∀ (w : World) (Z' : Hp) (R : HP) (s : σ) (x0 : Int) (x1 : ByteArray) (r : σ), Z.le Z' → Y_a0 s x0 x1 = some r → Inv w0 Z' w (star (J_a0 s) R) → YAt prog l_a0 [.int .i64 x0, .string x1] w (fun e w' => e = .returned (.bool true) ∧ Inv w0 Z' w' (star (J_a0 r) R))) (b_a1 : Nat) (a1_v : ByteArray) (b_a2 : Nat) (a2_v : Int) (hz_a2 : Z b_a2 = some (.cells (([.int .i64 a2_v] : List Value)).toArray 3 (0, 0))) (hI : Inv w0 Z w (star (J_a0 s_a0) (star (pt b_a1 (.cells (([.string a1_v] : List Value)).toArray 9 (0, 0))) A))) (r : (σ × ByteArray)) (h0 : root_chunks_1 Y_a0 s_a0 a1_v a2_v = some r) :
    Calls prog 80 #[.func (.yield l_a0) #[] #[], .pointer (some ⟨b_a1, 0, none⟩), .pointer (some ⟨b_a2, 0, none⟩)] w (fun e w' => e = .returned (.tuple #[]) ∧ Inv w0 Z w' (star (J_a0 r.1) (star (pt b_a1 (.cells (([.string r.2] : List Value)).toArray 9 (0, 0))) A))) := by
  have e4 := calls_intro (R := (fun e w' => e = .returned (.tuple #[]) ∧ Inv w0 Z w' (star (J_a0 r.1) (star (pt b_a1 (.cells (([.string r.2] : List Value)).toArray 9 (0, 0))) A)))) (w := w) (args := [.func (.yield l_a0) #[] #[], .pointer (some ⟨b_a1, 0, none⟩), .pointer (some ⟨b_a2, 0, none⟩)]) (fn := Go.Proofs.Try.f80) 26 Go.Proofs.Try.func80 (by rfl) Go.Proofs.Try.ntmps80 (by kernel_rfl)
  refine e4 ?_
  clear e4
  unfold root_chunks_1 at h0
  refine CodT.seq ?_
  refine CodT.regionL [0] (by kernel_rfl) ?_
  refine OpsT.pures (r := []) [0] [0, 1, 2, 4] (S' := [(0, .func (.yield l_a0) #[] #[]), (1, .pointer (some ⟨b_a1, 0, none⟩)), (2, .pointer (some ⟨b_a2, 0, none⟩)), (4, .int .i64 0)]) (by kernel_rfl) ?_
  refine OpsT.done ?_
  refine Qn.then ?_
  obtain ⟨r1, h1, h0⟩ := bindS h0
  refine CodT.meet1 (fun a w => ∃ (x1 : σ) (x2 : ByteArray), (x1, x2) = r1 ∧ Fr 26 [] a ∧ Inv w0 Z w (star (J_a0 x1) (star (pt b_a1 (.cells (([.string x2] : List Value)).toArray 9 (0, 0))) A))) ?_ ?_
  ·
    refine CodT.block ?_
    refine (fun a ha => wp_loopN (fun k a w => ∃ (x3 : Int) (x4 : σ) (x5 : ByteArray), root_chunks_1.l0 a2_v Y_a0 k x3 x4 x5 = some r1 ∧ Fr 26 [(0, .func (.yield l_a0) #[] #[]), (1, .pointer (some ⟨b_a1, 0, none⟩)), (2, .pointer (some ⟨b_a2, 0, none⟩)), (4, .int .i64 x3)] a ∧ Inv w0 Z w (star (J_a0 x4) (star (pt b_a1 (.cells (([.string x5] : List Value)).toArray 9 (0, 0))) A))) ?_ FU a w ⟨0, s_a0, a1_v, h1, ha.keep [0, 1, 2, 4] (by kernel_rfl), hI⟩)
    clear h1 hI
    rintro k a w ⟨x3, x4, x5, h1, ha, hI⟩
    rcases k with _ | k
    · cases h1
    simp only [root_chunks_1.l0] at h1
    refine CodT.of ?_ ha
    refine CodT.seq ?_
    refine CodT.seq ?_
    refine CodT.regionL [0, 1, 2] (by kernel_rfl) ?_
    refine OpsT.cons (Does.yi (Yl.load (d := 6) (T := 9) (v := .string x5) (by kernel_rfl) (ldB ty9 (l := ([.string x5] : List Value)) (o := 0) (v := .string x5) (pick2 _ _ _) (by kernel_rfl))) hI ?_)
    refine OpsT.pures (r := []) [1, 2] [0, 1, 2, 4, 8] (S' := [(0, .func (.yield l_a0) #[] #[]), (1, .pointer (some ⟨b_a1, 0, none⟩)), (2, .pointer (some ⟨b_a2, 0, none⟩)), (4, .int .i64 x3), (8, .bool (decide ((x5.size : Int) > 0)))]) (by kernel_rfl) ?_
    refine OpsT.done ?_
    refine Qn.then ?_
    by_cases hb6 : (decide ((x5.size : Int) > 0)) = true
    · rw [if_pos hb6] at h1
      refine CodT.yes' (b := decide ((x5.size : Int) > 0)) (by kernel_rfl) hb6 ?_
      refine CodT.skip ?_
      refine Qn.then ?_
      refine CodT.seq ?_
      refine CodT.block ?_
      refine CodT.seq ?_
      refine CodT.regionL [0, 1, 2, 3, 4, 5, 6] (by kernel_rfl) ?_
      refine OpsT.cons (Does.yi (Yl.load (d := 11) (T := 9) (v := .string x5) (by kernel_rfl) (ldB ty9 (l := ([.string x5] : List Value)) (o := 0) (v := .string x5) (pick2 _ _ _) (by kernel_rfl))) hI ?_)
      refine OpsT.cons (Does.yi (Yl.load (d := 12) (T := 3) (v := .int .i64 a2_v) (by kernel_rfl) (ldZ ty3 (l := ([.int .i64 a2_v] : List Value)) (o := 0) (v := .int .i64 a2_v) hz_a2 (by kernel_rfl))) hI ?_)
      refine OpsT.cons (Does.yi (Yl.load (d := 13) (T := 9) (v := .string x5) (by kernel_rfl) (ldB ty9 (l := ([.string x5] : List Value)) (o := 0) (v := .string x5) (pick2 _ _ _) (by kernel_rfl))) hI ?_)
      refine OpsT.pures (r := [5, 6]) [3, 4] [0, 1, 2, 4, 11, 15] (S' := [(0, .func (.yield l_a0) #[] #[]), (1, .pointer (some ⟨b_a1, 0, none⟩)), (2, .pointer (some ⟨b_a2, 0, none⟩)), (4, .int .i64 x3), (11, .string x5), (15, .int .i64 (if (x5.size : Int) < a2_v then (x5.size : Int) else a2_v))]) (by kernel_rfl) ?_
      obtain ⟨hg7, h1⟩ := guardS h1
      refine OpsT.cons (Does.yi (Yl.sliceStr01 (d := 16) (T := 9) (s := x5) (hi := if (x5.size : Int) < a2_v then (x5.size : Int) else a2_v) (by kernel_rfl) Go.Proofs.Try.underlying9 hg7) hI ?_)
      refine OpsT.pures (r := []) [6] [0, 1, 2, 4, 5] (S' := [(0, .func (.yield l_a0) #[] #[]), (1, .pointer (some ⟨b_a1, 0, none⟩)), (2, .pointer (some ⟨b_a2, 0, none⟩)), (4, .int .i64 x3), (5, .string (sx x5 0 (if (x5.size : Int) < a2_v then (x5.size : Int) else a2_v)))]) (by kernel_rfl) ?_
      refine OpsT.done ?_
      refine Qn.then ?_
      refine CodT.seq ?_
      refine CodT.regionL [0, 1, 2, 3, 4] (by kernel_rfl) ?_
      refine OpsT.cons (Does.yi (Yl.load (d := 17) (T := 9) (v := .string x5) (by kernel_rfl) (ldB ty9 (l := ([.string x5] : List Value)) (o := 0) (v := .string x5) (pick2 _ _ _) (by kernel_rfl))) hI ?_)
      refine OpsT.pures (r := [3, 4]) [1, 2] [0, 1, 2, 4, 5, 17, 19] (S' := [(0, .func (.yield l_a0) #[] #[]), (1, .pointer (some ⟨b_a1, 0, none⟩)), (2, .pointer (some ⟨b_a2, 0, none⟩)), (4, .int .i64 x3), (5, .string (sx x5 0 (if (x5.size : Int) < a2_v then (x5.size : Int) else a2_v))), (17, .string x5), (19, .int .i64 ((sx x5 0 (if (x5.size : Int) < a2_v then (x5.size : Int) else a2_v)).size : Int))]) (by kernel_rfl) ?_
      obtain ⟨hg8, h1⟩ := guardS h1
      refine OpsT.cons (Does.yi (Yl.sliceStr10 (d := 20) (T := 9) (s := x5) (lo := ((sx x5 0 (if (x5.size : Int) < a2_v then (x5.size : Int) else a2_v)).size : Int)) (by kernel_rfl) Go.Proofs.Try.underlying9 hg8) hI ?_)
      have hI := hI.mono (pick2 _ _ _)
      refine OpsT.cons (Does.storeLit (T := 9) (b := b_a1) (o := 0) (v := .string (sx x5 ((sx x5 0 (if (x5.size : Int) < a2_v then (x5.size : Int) else a2_v)).size : Int) (x5.size : Int))) (l := ([.string x5] : List Value)) (vs := ([.string (sx x5 ((sx x5 0 (if (x5.size : Int) < a2_v then (x5.size : Int) else a2_v)).size : Int) (x5.size : Int))] : List Value)) (L' := ([.string (sx x5 ((sx x5 0 (if (x5.size : Int) < a2_v then (x5.size : Int) else a2_v)).size : Int) (x5.size : Int))] : List Value)) (by kernel_rfl) ty9 hI (by kernel_rfl) (by kernel_rfl) (by kernel_rfl) (by kernel_rfl) (by kernel_rfl) ?_)
      intro w hI
      refine OpsT.done ?_
      refine Qn.then ?_
      refine CodT.seq ?_
      refine CodT.regionL [0, 1, 2, 3, 4] (by kernel_rfl) ?_
      refine OpsT.pures (r := [3, 4]) [0, 1, 2] [0, 1, 2, 4, 21, 22, 23] (S' := [(0, .func (.yield l_a0) #[] #[]), (1, .pointer (some ⟨b_a1, 0, none⟩)), (2, .pointer (some ⟨b_a2, 0, none⟩)), (4, .int .i64 x3), (21, .func (.yield l_a0) #[] #[]), (22, .int .i64 x3), (23, .string (sx x5 0 (if (x5.size : Int) < a2_v then (x5.size : Int) else a2_v)))]) (by kernel_rfl) ?_
      have hI := hI.mono (pick2 _ _ _)
      obtain ⟨y9, hc10, h1⟩ := bindS h1
      try dsimp only at h1
      refine OpsT.cons (Does.yieldCall (d := some 24) (l := l_a0) (vs := [.int .i64 x3, .string (sx x5 0 (if (x5.size : Int) < a2_v then (x5.size : Int) else a2_v))]) (by kernel_rfl) (hy_a0 w Z _ x4 x3 (sx x5 0 (if (x5.size : Int) < a2_v then (x5.size : Int) else a2_v)) y9  (Hp.le_refl _) hc10 hI) ?_)
      rintro e w ⟨rfl, hI⟩
      refine ⟨_, rfl, ?_⟩
      refine OpsT.pures (r := []) [4] [0, 1, 2, 4, 25] (S' := [(0, .func (.yield l_a0) #[] #[]), (1, .pointer (some ⟨b_a1, 0, none⟩)), (2, .pointer (some ⟨b_a2, 0, none⟩)), (4, .int .i64 x3), (25, .bool false)]) (by kernel_rfl) ?_
      refine OpsT.done ?_
      refine Qn.then ?_
      refine CodT.no (by kernel_rfl) ?_
      refine CodT.skip ?_
      refine Qn.block_normal ?_
      refine Qn.then ?_
      refine CodT.regionL [0, 1, 2] (by kernel_rfl) ?_
      refine OpsT.pures (r := []) [0, 1, 2] [0, 1, 2, 4] (S' := [(0, .func (.yield l_a0) #[] #[]), (1, .pointer (some ⟨b_a1, 0, none⟩)), (2, .pointer (some ⟨b_a2, 0, none⟩)), (4, .int .i64 (wi64 (x3 + 1)))]) (by kernel_rfl) ?_
      refine OpsT.done ?_
      exact Qn.thenJ fun a ha => ⟨k, Nat.lt_succ_self k, wi64 (x3 + 1), y9, sx x5 ((sx x5 0 (if (x5.size : Int) < a2_v then (x5.size : Int) else a2_v)).size : Int) (x5.size : Int), h1, ha.keep [0, 1, 2, 4] (by kernel_rfl), hI⟩
    · rw [if_neg hb6] at h1
      refine CodT.no' (b := decide ((x5.size : Int) > 0)) (by kernel_rfl) (by simpa using hb6) ?_
      refine CodT.exit ?_
      refine Qn.exit_then ?_
      refine Qn.exit_then ?_
      refine Qn.block ?_
      have e := someS h1
      subst e
      exact Qn.thenJ fun a ha => ⟨x4, x5, rfl, ha.keep [] (by kernel_rfl), hI⟩
  ·
    rintro a w ⟨x1, x2, rfl, ha, hI⟩
    try dsimp only at h0
    refine Qn.of ?_ ha
    have e := someS h0
    subst e
    refine Qn.keep [] (S' := []) (by kernel_rfl) ?_
    exact post_normal (v := .tuple #[]) (fun a ha => RunRes.run (vs := []) .nil ha (by kernel_rfl)) ⟨rfl, hI⟩
set_option maxRecDepth 100000 in
set_option maxHeartbeats 4000000 in
/-- cenotaph/root.Put -/
theorem c17 (w0 w : World) (Z : Hp) (A : HP) (hI : Inv w0 Z w A) (A_a0_Map : Option Addr) (c_a0_Map : Nat) (a0_Map : (List RootEntry)) (hr_a0_Map : RdS Z c_RootEntry 4 A_a0_Map c_a0_Map a0_Map) (A_a0_Gone : Option Addr) (c_a0_Gone : Nat) (a0_Gone : (List Int)) (hr_a0_Gone : RdS Z (cI .i64) 1 A_a0_Gone c_a0_Gone a0_Gone) (a1 : Int) (r : (List ByteArray)) (h0 : root_Put a0_Map a0_Gone a1 = some r) :
    Calls prog 17 #[.agg ((([.slice A_a0_Map a0_Map.length c_a0_Map, .slice A_a0_Gone a0_Gone.length c_a0_Gone] : List Value))).toArray, .int .i64 a1] w (fun e w' => ∃ (A1 : Option Addr) (c1 : Nat), e = .returned (.slice A1 r.length c1) ∧ Inv w0 Z w' (star (ownS 9 cS 1 A1 c1 r) A)) := by
  have e4 := calls_introM (R := (fun e w' => ∃ (A1 : Option Addr) (c1 : Nat), e = .returned (.slice A1 r.length c1) ∧ Inv w0 Z w' (star (ownS 9 cS 1 A1 c1 r) A))) (w := w) (args := [.agg ((([.slice A_a0_Map a0_Map.length c_a0_Map, .slice A_a0_Gone a0_Gone.length c_a0_Gone] : List Value))).toArray, .int .i64 a1]) (fn := Go.Proofs.Try.f17) 49 Go.Proofs.Try.func17 (by rfl) Go.Proofs.Try.ntmps17 (by kernel_rfl)
  refine e4 ?_
  clear e4
  unfold root_Put at h0
  refine CodT.seq ?_
  refine CodT.regionL [0, 1] (by kernel_rfl) ?_
  refine OpsT.cons (Does.boxL (d := 2) (T := 25) (v := .agg ((([.slice A_a0_Map a0_Map.length c_a0_Map, .slice A_a0_Gone a0_Gone.length c_a0_Gone] : List Value))).toArray) ((([.slice A_a0_Map a0_Map.length c_a0_Map, .slice A_a0_Gone a0_Gone.length c_a0_Gone] : List Value))) (by kernel_rfl) hI (by kernel_rfl) ?_)
  intro b1 w hI
  refine OpsT.pures (r := []) [1] [1, 2] (S' := [(1, .int .i64 a1), (2, .pointer (some ⟨b1, 0, none⟩))]) (by kernel_rfl) ?_
  refine OpsT.done ?_
  refine Qn.then ?_
  refine CodT.seq ?_
  obtain ⟨r1, h1, h0⟩ := bindS h0
  refine CodT.meet (fun a w => ∃ (x2 : Bool), x2 = r1 ∧ Fr 49 [(1, .int .i64 a1), (2, .pointer (some ⟨b1, 0, none⟩)), (21, .bool x2)] a ∧ Inv w0 Z w (star (pt b1 (.cells ((([.slice A_a0_Map a0_Map.length c_a0_Map, .slice A_a0_Gone a0_Gone.length c_a0_Gone] : List Value))).toArray 25 (0, 0))) A)) ?_ ?_
  ·
    refine CodT.regionL [0, 1, 2, 3, 4, 5, 6, 7, 8, 9, 10] (by kernel_rfl) ?_
    refine OpsT.cons (Does.yi (Yl.load (d := 11) (T := 25) (v := .agg ((([.slice A_a0_Map a0_Map.length c_a0_Map, .slice A_a0_Gone a0_Gone.length c_a0_Gone] : List Value))).toArray) (by kernel_rfl) (ldBN ty25 (l := (([.slice A_a0_Map a0_Map.length c_a0_Map, .slice A_a0_Gone a0_Gone.length c_a0_Gone] : List Value))) (o := 0) (cs := (([.slice A_a0_Map a0_Map.length c_a0_Map, .slice A_a0_Gone a0_Gone.length c_a0_Gone] : List Value))) (ent_refl _) (by kernel_rfl) (whole _ _ (by kernel_rfl)))) hI ?_)
    obtain ⟨y4, hc3, h1⟩ := bindS h1
    try dsimp only at h1
    refine OpsT.cons (Does.call (d := some 12) (n := 14) (vs := [.agg ((([.slice A_a0_Map a0_Map.length c_a0_Map, .slice A_a0_Gone a0_Gone.length c_a0_Gone] : List Value))).toArray]) (by kernel_rfl) en14 (c14 w0 w _ _ hI A_a0_Map c_a0_Map a0_Map hr_a0_Map A_a0_Gone c_a0_Gone a0_Gone hr_a0_Gone _ hc3) ?_)
    rintro e w ⟨rfl, hI⟩
    refine ⟨_, rfl, ?_⟩
    refine OpsT.pures (r := [4, 5, 6, 7, 8, 9, 10]) [2, 3] [1, 2, 14] (S' := [(1, .int .i64 a1), (2, .pointer (some ⟨b1, 0, none⟩)), (14, .bool (!y4))]) (by kernel_rfl) ?_
    by_cases hb5 : (!y4) = true
    · rw [if_pos hb5] at h1
      refine OpsT.keep [1, 2, 14] (S' := [(1, .int .i64 a1), (2, .pointer (some ⟨b1, 0, none⟩)), (14, .bool true)]) (by simp only [hb5]; kernel_rfl) ?_
      refine OpsT.pures (r := []) [4, 5, 6, 7, 8, 9, 10] [1, 2, 21] (S' := [(1, .int .i64 a1), (2, .pointer (some ⟨b1, 0, none⟩)), (21, .bool true)]) (by kernel_rfl) ?_
      refine OpsT.done ?_
      have e := someS h1
      subst e
      exact Qn.thenJ fun a ha => ⟨true, rfl, ha.keep [1, 2, 21] (by kernel_rfl), hI⟩
    · rw [if_neg hb5] at h1
      have hb5 : (!y4) = false := by simpa using hb5
      refine OpsT.keep [1, 2, 14] (S' := [(1, .int .i64 a1), (2, .pointer (some ⟨b1, 0, none⟩)), (14, .bool false)]) (by simp only [hb5]; kernel_rfl) ?_
      refine OpsT.pures (r := [8, 9, 10]) [4, 5, 6, 7] [1, 2, 18] (S' := [(1, .int .i64 a1), (2, .pointer (some ⟨b1, 0, none⟩)), (18, .bool (decide (a1 < 8)))]) (by kernel_rfl) ?_
      by_cases hb6 : (decide (a1 < 8)) = true
      · rw [if_pos hb6] at h1
        refine OpsT.keep [1, 2, 18] (S' := [(1, .int .i64 a1), (2, .pointer (some ⟨b1, 0, none⟩)), (18, .bool true)]) (by simp only [hb6]; kernel_rfl) ?_
        refine OpsT.pures (r := []) [8, 9, 10] [1, 2, 21] (S' := [(1, .int .i64 a1), (2, .pointer (some ⟨b1, 0, none⟩)), (21, .bool true)]) (by kernel_rfl) ?_
        refine OpsT.done ?_
        have e := someS h1
        subst e
        exact Qn.thenJ fun a ha => ⟨true, rfl, ha.keep [1, 2, 21] (by kernel_rfl), hI⟩
      · rw [if_neg hb6] at h1
        have hb6 : (decide (a1 < 8)) = false := by simpa using hb6
        refine OpsT.keep [1, 2, 18] (S' := [(1, .int .i64 a1), (2, .pointer (some ⟨b1, 0, none⟩)), (18, .bool false)]) (by simp only [hb6]; kernel_rfl) ?_
        refine OpsT.pures (r := []) [8, 9, 10] [1, 2, 21] (S' := [(1, .int .i64 a1), (2, .pointer (some ⟨b1, 0, none⟩)), (21, .bool (decide (a1 > 224)))]) (by kernel_rfl) ?_
        refine OpsT.done ?_
        have e := someS h1
        subst e
        exact Qn.thenJ fun a ha => ⟨decide (a1 > 224), rfl, ha.keep [1, 2, 21] (by kernel_rfl), hI⟩
  ·
    rintro a w ⟨x2, rfl, ha, hI⟩
    try dsimp only at h0
    refine CodT.of ?_ ha
    by_cases hb7 : x2 = true
    · rw [if_pos hb7] at h0
      refine CodT.yes' (b := x2) (by kernel_rfl) hb7 ?_
      refine CodT.seq ?_
      refine CodT.regionL [0] (by kernel_rfl) ?_
      refine OpsT.pures (r := []) [0] [4] (S' := [(4, .slice none 0 0)]) (by kernel_rfl) ?_
      refine OpsT.done ?_
      refine Qn.then ?_
      refine CodT.ret ?_
      refine Qn.ret_then ?_
      have hI := ownS_nil (α := ByteArray) hI 9 cS 1
      have hI := hI.mono (pick2 _ _ _)
      have hI := hI.drop
      have e := someS h0
      subst e
      refine Qn.keep [4] (S' := [(4, .slice none 0 0)]) (by kernel_rfl) ?_
      exact post_retM (v := .slice none 0 0) (fun a ha => RunRes.run (vs := [.slice none 0 0]) (.tmp (t := 4) (by kernel_rfl) .nil) ha (by kernel_rfl)) ⟨none, 0, rfl, hI⟩
    · rw [if_neg hb7] at h0
      refine CodT.no' (b := x2) (by kernel_rfl) (by simpa using hb7) ?_
      refine CodT.skip ?_
      refine Qn.then ?_
      refine CodT.seq ?_
      refine CodT.regionL [0, 1, 2] (by kernel_rfl) ?_
      refine OpsT.cons (Does.yi (Yl.load (d := 22) (T := 25) (v := .agg ((([.slice A_a0_Map a0_Map.length c_a0_Map, .slice A_a0_Gone a0_Gone.length c_a0_Gone] : List Value))).toArray) (by kernel_rfl) (ldBN ty25 (l := (([.slice A_a0_Map a0_Map.length c_a0_Map, .slice A_a0_Gone a0_Gone.length c_a0_Gone] : List Value))) (o := 0) (cs := (([.slice A_a0_Map a0_Map.length c_a0_Map, .slice A_a0_Gone a0_Gone.length c_a0_Gone] : List Value))) (ent_refl _) (by kernel_rfl) (whole _ _ (by kernel_rfl)))) hI ?_)
      obtain ⟨y9, hc8, h0⟩ := bindS h0
      try dsimp only at h0
      refine OpsT.cons (Does.call (d := some 23) (n := 47) (vs := [.agg ((([.slice A_a0_Map a0_Map.length c_a0_Map, .slice A_a0_Gone a0_Gone.length c_a0_Gone] : List Value))).toArray]) (by kernel_rfl) en47 (c47 w0 w _ _ hI A_a0_Map c_a0_Map a0_Map hr_a0_Map A_a0_Gone c_a0_Gone a0_Gone hr_a0_Gone _ hc8) ?_)
      rintro e w ⟨rfl, hI⟩
      refine ⟨_, rfl, ?_⟩
      refine OpsT.pures (r := []) [2] [1, 5] (S' := [(1, .int .i64 a1), (5, .string y9)]) (by kernel_rfl) ?_
      refine OpsT.done ?_
      refine Qn.then ?_
      refine CodT.seq ?_
      refine CodT.regionL [0, 1, 2] (by kernel_rfl) ?_
      refine OpsT.pures (r := []) [0, 1, 2] [5, 6] (S' := [(5, .string y9), (6, .int .i64 (wi64 (a1 - 6)))]) (by kernel_rfl) ?_
      refine OpsT.done ?_
      refine Qn.then ?_
      refine CodT.seq ?_
      refine CodT.regionL [0, 1, 2, 3, 4, 5, 6, 7, 8] (by kernel_rfl) ?_
      refine OpsT.pures (r := [6, 7, 8]) [0, 1, 2, 3, 4, 5] [5, 6, 30, 31] (S' := [(5, .string y9), (6, .int .i64 (wi64 (a1 - 6))), (30, .int .i64 (wi64 ((wi64 ((y9.size : Int) + (wi64 (a1 - 6)))) - 1))), (31, .int .i64 (wi64 (a1 - 6)))]) (by kernel_rfl) ?_
      obtain ⟨hg10, h0⟩ := guardS h0
      refine OpsT.cons (Does.yi (Yl.quo (d := 32) (T := 3) (k := .i64) (x := wi64 ((wi64 ((y9.size : Int) + (wi64 (a1 - 6)))) - 1)) (y := wi64 (a1 - 6)) (by kernel_rfl) hg10) hI ?_)
      refine OpsT.cons (Does.allocL (d := 7) (T := 3) (([.int .i64 0] : List Value)) (by kernel_rfl) ty3 hI (by kernel_rfl) ?_)
      intro b11 w hI
      refine OpsT.cons (Does.storeLit (T := 3) (b := b11) (o := 0) (v := .int .i64 (wi64 ((wi64 ((wi64 ((y9.size : Int) + (wi64 (a1 - 6)))) - 1)).tdiv (wi64 (a1 - 6))))) (l := ([.int .i64 0] : List Value)) (vs := ([.int .i64 (wi64 ((wi64 ((wi64 ((y9.size : Int) + (wi64 (a1 - 6)))) - 1)).tdiv (wi64 (a1 - 6))))] : List Value)) (L' := ([.int .i64 (wi64 ((wi64 ((wi64 ((y9.size : Int) + (wi64 (a1 - 6)))) - 1)).tdiv (wi64 (a1 - 6))))] : List Value)) (by kernel_rfl) ty3 hI (by kernel_rfl) (by kernel_rfl) (by kernel_rfl) (by kernel_rfl) (by kernel_rfl) ?_)
      intro w hI
      refine OpsT.done ?_
      refine Qn.then ?_
      refine CodT.seq ?_
      refine CodT.regionL [0] (by kernel_rfl) ?_
      refine OpsT.cons (Does.allocL (d := 8) (T := 36) (([.slice none 0 0] : List Value)) (by kernel_rfl) ty36 hI (by kernel_rfl) ?_)
      intro b12 w hI
      refine OpsT.done ?_
      refine Qn.then ?_
      refine CodT.seq ?_
      refine CodT.seq ?_
      refine CodT.regionL [0, 1, 2] (by kernel_rfl) ?_
      refine OpsT.pures (r := [2]) [0, 1] [7, 8, 33, 34] (S' := [(7, .pointer (some ⟨b11, 0, none⟩)), (8, .pointer (some ⟨b12, 0, none⟩)), (33, .string y9), (34, .int .i64 (wi64 (a1 - 6)))]) (by kernel_rfl) ?_
      obtain ⟨⟨y15, y17⟩, hc13, h0⟩ := bindS h0
      try dsimp only at h0
      refine OpsT.cons (Does.call (d := some 35) (n := 48) (vs := [.string y9, .int .i64 (wi64 (a1 - 6))]) (by kernel_rfl) en48 (c48 w0 w _ _ hI y9 (wi64 (a1 - 6)) _ hc13) ?_)
      rintro e w ⟨b14, b16, Z19, hle20, rfl, hz18, hI⟩
      refine ⟨_, rfl, ?_⟩
      refine OpsT.done ?_
      refine Qn.then ?_
      refine CodT.block ?_
      have hI := ownS_nil (α := ByteArray) hI 9 cS 1
      refine CodT.rangeFn (f := 80) (cp := [.pointer (some ⟨b14, 0, none⟩), .pointer (some ⟨b16, 0, none⟩)]) (by kernel_rfl) en80 hI ?_
      intro ac26 l24 rr25 w rc27 fn28 hrc29 ha30 hI
      obtain ⟨J31, hJ32⟩ : ∃ J : (List ByteArray) → HP, J = fun s => match s with | x21 => (hpEx fun (A22 : Option Addr) => (hpEx fun (cp23 : Nat) => (star (ownS 9 cS 1 A22 cp23 x21) (star (pt b12 (.cells (([.slice A22 x21.length cp23] : List Value)).toArray 36 (0, 0))) (star (pt b11 (.cells (([.int .i64 (wi64 ((wi64 ((wi64 ((y9.size : Int) + (wi64 (a1 - 6)))) - 1)).tdiv (wi64 (a1 - 6))))] : List Value)).toArray 3 (0, 0))) (pt l24 (rc27 .ready))))))) := ⟨_, rfl⟩
      have hY33 : ∀ (w : World) (Z' : Hp) (R : HP) (s : (List ByteArray)) (y34 : Int) (y35 : ByteArray) (r : (List ByteArray)), Z19.le Z' → root_Put.y1 y9 a1 s y34 y35 = some r → Inv w0 Z' w (star (J31 s) R) → YAt prog l24 [.int .i64 y34, .string y35] w (fun e w' => e = .returned (.bool true) ∧ Inv w0 Z' w' (star (J31 r) R)) := by
        rintro w Z2 R x21 y34 y35 r_  hle2 h1 hI
        rw [hJ32] at hI ⊢
        dsimp only at hI ⊢
        unfold root_Put.y1 at h1
        try dsimp only at h1
        obtain ⟨A22, hI⟩ := hI.exo
        obtain ⟨cp23, hI⟩ := hI.exo
        have hI := hI.mono (ung4 _ _ _ _ _)
        have hI := hI.mono (pick4 _ _ _ _ _)
        refine YAt.roundN hrc29 hI rfl ha30 (by kernel_rfl) ?_
        refine CodT.keep [7, 8, 36, 37] (S' := [(7, .pointer (some ⟨b11, 0, none⟩)), (8, .pointer (some ⟨b12, 0, none⟩)), (36, .int .i64 y34), (37, .string y35)]) (by kernel_rfl) ?_
        refine CodT.seq ?_
        refine CodT.regionL [0] (by kernel_rfl) ?_
        refine OpsT.pures (r := []) [0] [7, 8, 9, 37] (S' := [(7, .pointer (some ⟨b11, 0, none⟩)), (8, .pointer (some ⟨b12, 0, none⟩)), (9, .int .i64 y34), (37, .string y35)]) (by kernel_rfl) ?_
        refine OpsT.done ?_
        refine Qn.then ?_
        refine CodT.regionL [0] (by kernel_rfl) ?_
        refine OpsT.pures (r := []) [0] [7, 8, 9, 10] (S' := [(7, .pointer (some ⟨b11, 0, none⟩)), (8, .pointer (some ⟨b12, 0, none⟩)), (9, .int .i64 y34), (10, .string y35)]) (by kernel_rfl) ?_
        refine OpsT.done ?_
        refine Qn.thenJ fun a ha => ⟨_, _, hI, fun w hI => ?_⟩
        refine CodT.of ?_ ha
        refine CodT.block ?_
        refine CodT.drawI (n := 11) [9, 10] (by kernel_rfl) (by kernel_rfl) hI ?_
        intro w hI
        refine GmT.p' 1 39 (.int .i64 y34) (by kernel_rfl) (by kernel_rfl) ?_
        refine GmT.p' 6 44 (.string y35) (by kernel_rfl) (by kernel_rfl) ?_
        refine GmT.r (i := 0) 2 (by kernel_rfl) (by kernel_rfl) (Yl.load (d := 38) (T := 36) (v := .slice A22 x21.length cp23) (by kernel_rfl) (ldB ty36 (l := ([.slice A22 x21.length cp23] : List Value)) (o := 0) (v := .slice A22 x21.length cp23) (pick3 _ _ _ _) (by kernel_rfl))) hI ?_
        refine GmT.r (i := 3) 3 (by kernel_rfl) (by kernel_rfl) (Yl.load (d := 41) (T := 3) (v := .int .i64 (wi64 ((wi64 ((wi64 ((y9.size : Int) + (wi64 (a1 - 6)))) - 1)).tdiv (wi64 (a1 - 6))))) (by kernel_rfl) (ldB ty3 (l := ([.int .i64 (wi64 ((wi64 ((wi64 ((y9.size : Int) + (wi64 (a1 - 6)))) - 1)).tdiv (wi64 (a1 - 6))))] : List Value)) (o := 0) (v := .int .i64 (wi64 ((wi64 ((wi64 ((y9.size : Int) + (wi64 (a1 - 6)))) - 1)).tdiv (wi64 (a1 - 6))))) (pick4 _ _ _ _ _) (by kernel_rfl))) hI ?_
        obtain ⟨y37, hc36, h1⟩ := bindS h1
        try dsimp only at h1
        refine GmT.o (i := 2) (by kernel_rfl) (Does.call (d := some 40) (n := 49) (vs := [.int .i64 y34]) (by kernel_rfl) en49 (c49 w0 w _ _ hI y34 _ hc36) ?_)
        rintro e w ⟨rfl, hI⟩
        refine ⟨_, rfl, ?_⟩
        refine ⟨fun _ _ => hI, ?_⟩
        obtain ⟨y39, hc38, h1⟩ := bindS h1
        try dsimp only at h1
        refine GmT.o (i := 4) (by kernel_rfl) (Does.call (d := some 42) (n := 49) (vs := [.int .i64 (wi64 ((wi64 ((wi64 ((y9.size : Int) + (wi64 (a1 - 6)))) - 1)).tdiv (wi64 (a1 - 6))))]) (by kernel_rfl) en49 (c49 w0 w _ _ hI (wi64 ((wi64 ((wi64 ((y9.size : Int) + (wi64 (a1 - 6)))) - 1)).tdiv (wi64 (a1 - 6)))) _ hc38) ?_)
        rintro e w ⟨rfl, hI⟩
        refine ⟨_, rfl, ?_⟩
        refine ⟨fun _ _ => hI, ?_⟩
        obtain ⟨hg40, h1⟩ := guardS h1
        refine GmT.r (i := 5) 4 (by kernel_rfl) (by kernel_rfl) (Yl.cat (d := 43) (T := 9) (x := y37) (y := y39) (by kernel_rfl) hg40) hI ?_
        obtain ⟨hg41, h1⟩ := guardS h1
        refine GmT.r (i := 7) 3 (by kernel_rfl) (by kernel_rfl) (Yl.cat (d := 45) (T := 9) (x := y37 ++ y39) (y := y35) (by kernel_rfl) hg41) hI ?_
        refine GmT.o (i := 8) (by kernel_rfl) (Does.buildSlice (en := cS) (d := 46) (n := 1) (T := 36) (ps := [(0, .string ((y37 ++ y39) ++ y35))]) ([(y37 ++ y39) ++ y35] : List ByteArray) (by kernel_rfl) Go.Proofs.Try.underlying36 ty9 (by kernel_rfl) (by kernel_rfl) (by kernel_rfl) (by kernel_rfl) (len_all (fun _ => rfl)) hI ?_)
        intro b42 w hI
        have hC := hI
        have hC := hC.drop
        refine ⟨fun _ _ => hC, ?_⟩
        obtain ⟨hg43, h1⟩ := guardS h1
        have hI := hI.mono (pick3 _ _ _ _)
        refine GmT.o (i := 9) (by kernel_rfl) (Does.append (d := 47) (t := 36) (tx := 36) (ty := 36) (ys := x21) (zs := ([(y37 ++ y39) ++ y35] : List ByteArray)) (x := .slice (some ⟨b42, 0, none⟩) (([(y37 ++ y39) ++ y35] : List ByteArray).length) 1) (by kernel_rfl) Go.Proofs.Try.underlying36 ty9 (by kernel_rfl) hI (src_own Go.Proofs.Try.underlying36 (hI.mono (pick2 _ _ _)) (one_flat _ (fun _ => rfl))) (ownS_facts (hI.mono (pick2 _ _ _))).2.2 (by unfold LIM at hg43; omega) hg43 ?_)
        intro A44 cp45 w hI
        refine ⟨fun h => absurd h (by decide), ?_⟩
        have hI := hI.mono (pick4 _ _ _ _ _)
        refine GmT.o (i := 10) (by kernel_rfl) (Does.storeLit (T := 36) (b := b12) (o := 0) (v := .slice A44 ((x21 ++ ([(y37 ++ y39) ++ y35] : List ByteArray)).length) cp45) (l := ([.slice A22 x21.length cp23] : List Value)) (vs := ([.slice A44 ((x21 ++ ([(y37 ++ y39) ++ y35] : List ByteArray)).length) cp45] : List Value)) (L' := ([.slice A44 ((x21 ++ ([(y37 ++ y39) ++ y35] : List ByteArray)).length) cp45] : List Value)) (by kernel_rfl) ty36 hI (by kernel_rfl) (by kernel_rfl) (by kernel_rfl) (by kernel_rfl) (by kernel_rfl) ?_)
        intro w hI
        refine ⟨fun h => absurd h (by decide), ?_⟩
        refine GmT.done (by kernel_rfl) ?_
        refine Qn.block_normal ?_
        have hI := hI.mono (pick3 _ _ _ _)
        have hI := hI.drop
        have hI := hI.mono (pick3 _ _ _ _)
        have hI := hI.mono (pick4 _ _ _ _ _)
        have hI := hI.mono (pick3 _ _ _ _)
        have hI := hI.mono (pick4 _ _ _ _ _)
        have e := someS h1
        subst e
        have hI := hI.mono (pick4 _ _ _ _ _)
        refine Qn.roundN hrc29 hI ?_
        intro w hI
        refine ⟨rfl, ?_⟩
        have hI := hI.mono (pick4 _ _ _ _ _)
        have hI := hI.mono (pick4 _ _ _ _ _)
        have hI := hI.mono (pick4 _ _ _ _ _)
        have hI := hI.mono (grp4 _ _ _ _ _)
        exact (Inv.exc A44 (Inv.exc cp45 hI))
      have hI := hI.mono (pick6 _ _ _ _ _ _ _)
      have hI := hI.mono (pick6 _ _ _ _ _ _ _)
      have hI := hI.mono (pick5 _ _ _ _ _ _)
      have hI := hI.mono (grp4 _ _ _ _ _)
      replace hI : Inv w0 Z19 w (star (J31 ([] : List ByteArray)) (star (pt rr25 (.deferred (some []))) (star (pt b14 (.cells (([.string y15] : List Value)).toArray 9 (0, 0))) (star (pt b1 (.cells ((([.slice A_a0_Map a0_Map.length c_a0_Map, .slice A_a0_Gone a0_Gone.length c_a0_Gone] : List Value))).toArray 25 (0, 0))) A)))) := by rw [hJ32]; exact (Inv.exc none (Inv.exc 0 hI))
      have hI := hI.mono (pick3 _ _ _ _)
      have hI := hI.mono (pick2 _ _ _)
      obtain ⟨⟨y46, y47⟩, hc48, h0⟩ := bindS h0
      try dsimp only at h0
      refine Calls.mono (c80 w0 w _ _ l24 J31 (root_Put.y1 y9 a1) ([] : List ByteArray) hY33 b14 y15 b16 y17 hz18 hI _ hc48) ?_
      rintro e w ⟨rfl, hI⟩
      rw [hJ32] at hI
      dsimp only at hI
      try dsimp only at h0
      obtain ⟨A50, hI⟩ := hI.exo
      obtain ⟨cp51, hI⟩ := hI.exo
      have hI := hI.mono (ung4 _ _ _ _ _)
      have hI := hI.mono (pick4 _ _ _ _ _)
      refine ⟨_, _, _, rfl, hI, ?_⟩
      intro w hI
      refine Qn.block_normal ?_
      refine Qn.then ?_
      refine CodT.seq ?_
      refine CodT.regionL [0, 1] (by kernel_rfl) ?_
      refine OpsT.cons (Does.yi (Yl.load (d := 48) (T := 36) (v := .slice A50 y46.length cp51) (by kernel_rfl) (ldB ty36 (l := ([.slice A50 y46.length cp51] : List Value)) (o := 0) (v := .slice A50 y46.length cp51) (pick2 _ _ _) (by kernel_rfl))) hI ?_)
      refine OpsT.pures (r := []) [1] [4] (S' := [(4, .slice A50 y46.length cp51)]) (by kernel_rfl) ?_
      refine OpsT.done ?_
      refine Qn.then ?_
      refine CodT.ret ?_
      have hI := hI.mono (pick5 _ _ _ _ _ _)
      refine post_mark hI ?_
      intro w hI
      have hI := hI.mono (pick2 _ _ _)
      have hI := hI.drop
      have hI := hI.mono (pick2 _ _ _)
      have hI := hI.drop
      have hI := hI.mono (pick2 _ _ _)
      have hI := hI.drop
      have hI := hI.mono (pick2 _ _ _)
      have hI := hI.drop
      have e := someS h0
      subst e
      refine Qn.keep [4] (S' := [(4, .slice A50 y46.length cp51)]) (by kernel_rfl) ?_
      exact post_retM (v := .slice A50 y46.length cp51) (fun a ha => RunRes.run (vs := [.slice A50 y46.length cp51]) (.tmp (t := 4) (by kernel_rfl) .nil) ha (by kernel_rfl)) ⟨A50, cp51, rfl, hI.weaken hle20⟩
set_option maxRecDepth 100000 in
set_option maxHeartbeats 4000000 in
/-- cmp.isNaN[int] -/
theorem c106 (w0 w : World) (Z : Hp) (A : HP) (hI : Inv w0 Z w A) (a0 : Int) (r : Bool) (h0 : cmp_isNaN_int a0 = some r) :
    Calls prog 106 #[.int .i64 a0] w (fun e w' => e = .returned (.bool r) ∧ Inv w0 Z w' A) := by
  have e4 := calls_intro (R := (fun e w' => e = .returned (.bool r) ∧ Inv w0 Z w' A)) (w := w) (args := [.int .i64 a0]) (fn := Go.Proofs.Try.f106) 6 Go.Proofs.Try.func106 (by rfl) Go.Proofs.Try.ntmps106 (by kernel_rfl)
  refine e4 ?_
  clear e4
  unfold cmp_isNaN_int at h0
  refine CodT.seq ?_
  refine CodT.regionL [0] (by kernel_rfl) ?_
  refine OpsT.pures (r := []) [0] [0] (S' := [(0, .int .i64 a0)]) (by kernel_rfl) ?_
  refine OpsT.done ?_
  refine Qn.then ?_
  refine CodT.seq ?_
  refine CodT.regionL [0, 1, 2, 3] (by kernel_rfl) ?_
  refine OpsT.pures (r := []) [0, 1, 2, 3] [2] (S' := [(2, .bool (a0 != a0))]) (by kernel_rfl) ?_
  refine OpsT.done ?_
  refine Qn.then ?_
  refine CodT.ret ?_
  have e := someS h0
  subst e
  refine Qn.keep [2] (S' := [(2, .bool (a0 != a0))]) (by kernel_rfl) ?_
  exact post_ret (v := .bool (a0 != a0)) (fun a ha => RunRes.run (vs := [.bool (a0 != a0)]) (.tmp (t := 2) (by kernel_rfl) .nil) ha (by kernel_rfl)) ⟨rfl, hI⟩
set_option maxRecDepth 100000 in
set_option maxHeartbeats 4000000 in
/-- cmp.Compare[int] -/
theorem c84 (w0 w : World) (Z : Hp) (A : HP) (hI : Inv w0 Z w A) (a0 : Int) (a1 : Int) (r : Int) (h0 : cmp_Compare_int a0 a1 = some r) :
    Calls prog 84 #[.int .i64 a0, .int .i64 a1] w (fun e w' => e = .returned (.int .i64 r) ∧ Inv w0 Z w' A) := by
  have e4 := calls_intro (R := (fun e w' => e = .returned (.int .i64 r) ∧ Inv w0 Z w' A)) (w := w) (args := [.int .i64 a0, .int .i64 a1]) (fn := Go.Proofs.Try.f84) 20 Go.Proofs.Try.func84 (by rfl) Go.Proofs.Try.ntmps84 (by kernel_rfl)
  refine e4 ?_
  clear e4
  unfold cmp_Compare_int at h0
  refine CodT.seq ?_
  refine CodT.regionL [0] (by kernel_rfl) ?_
  refine OpsT.pures (r := []) [0] [0, 1] (S' := [(0, .int .i64 a0), (1, .int .i64 a1)]) (by kernel_rfl) ?_
  refine OpsT.done ?_
  refine Qn.then ?_
  refine CodT.seq ?_
  refine CodT.regionL [0, 1, 2] (by kernel_rfl) ?_
  refine OpsT.pures (r := [1, 2]) [0] [0, 1, 7] (S' := [(0, .int .i64 a0), (1, .int .i64 a1), (7, .int .i64 a0)]) (by kernel_rfl) ?_
  obtain ⟨y2, hc1, h0⟩ := bindS h0
  try dsimp only at h0
  refine OpsT.cons (Does.call (d := some 8) (n := 106) (vs := [.int .i64 a0]) (by kernel_rfl) en106 (c106 w0 w _ _ hI a0 _ hc1) ?_)
  rintro e w ⟨rfl, hI⟩
  refine ⟨_, rfl, ?_⟩
  refine OpsT.pures (r := []) [2] [0, 1, 5] (S' := [(0, .int .i64 a0), (1, .int .i64 a1), (5, .bool y2)]) (by kernel_rfl) ?_
  refine OpsT.done ?_
  refine Qn.then ?_
  refine CodT.seq ?_
  refine CodT.regionL [0, 1, 2] (by kernel_rfl) ?_
  refine OpsT.pures (r := [1, 2]) [0] [0, 1, 5, 9] (S' := [(0, .int .i64 a0), (1, .int .i64 a1), (5, .bool y2), (9, .int .i64 a1)]) (by kernel_rfl) ?_
  obtain ⟨y4, hc3, h0⟩ := bindS h0
  try dsimp only at h0
  refine OpsT.cons (Does.call (d := some 10) (n := 106) (vs := [.int .i64 a1]) (by kernel_rfl) en106 (c106 w0 w _ _ hI a1 _ hc3) ?_)
  rintro e w ⟨rfl, hI⟩
  refine ⟨_, rfl, ?_⟩
  refine OpsT.pures (r := []) [2] [0, 1, 5, 6] (S' := [(0, .int .i64 a0), (1, .int .i64 a1), (5, .bool y2), (6, .bool y4)]) (by kernel_rfl) ?_
  refine OpsT.done ?_
  refine Qn.then ?_
  refine CodT.seq ?_
  refine CodT.seq ?_
  refine CodT.regionL [0] (by kernel_rfl) ?_
  refine OpsT.pures (r := []) [0] [0, 1, 6, 11] (S' := [(0, .int .i64 a0), (1, .int .i64 a1), (6, .bool y4), (11, .bool y2)]) (by kernel_rfl) ?_
  refine OpsT.done ?_
  refine Qn.then ?_
  by_cases hb5 : y2 = true
  · rw [if_pos hb5] at h0
    refine CodT.yes' (b := y2) (by kernel_rfl) hb5 ?_
    refine CodT.seq ?_
    refine CodT.seq ?_
    refine CodT.regionL [0] (by kernel_rfl) ?_
    refine OpsT.pures (r := []) [0] [12] (S' := [(12, .bool y4)]) (by kernel_rfl) ?_
    refine OpsT.done ?_
    refine Qn.then ?_
    by_cases hb6 : y4 = true
    · rw [if_pos hb6] at h0
      refine CodT.yes' (b := y4) (by kernel_rfl) hb6 ?_
      refine CodT.seq ?_
      refine CodT.regionL [0] (by kernel_rfl) ?_
      refine OpsT.pures (r := []) [0] [4] (S' := [(4, .int .i64 0)]) (by kernel_rfl) ?_
      refine OpsT.done ?_
      refine Qn.then ?_
      refine CodT.ret ?_
      refine Qn.ret_then ?_
      refine Qn.ret_then ?_
      have e := someS h0
      subst e
      refine Qn.keep [4] (S' := [(4, .int .i64 0)]) (by kernel_rfl) ?_
      exact post_ret (v := .int .i64 0) (fun a ha => RunRes.run (vs := [.int .i64 0]) (.tmp (t := 4) (by kernel_rfl) .nil) ha (by kernel_rfl)) ⟨rfl, hI⟩
    · rw [if_neg hb6] at h0
      refine CodT.no' (b := y4) (by kernel_rfl) (by simpa using hb6) ?_
      refine CodT.skip ?_
      refine Qn.then ?_
      refine CodT.seq ?_
      refine CodT.regionL [0] (by kernel_rfl) ?_
      refine OpsT.pures (r := []) [0] [4] (S' := [(4, .int .i64 (-1))]) (by kernel_rfl) ?_
      refine OpsT.done ?_
      refine Qn.then ?_
      refine CodT.ret ?_
      refine Qn.ret_then ?_
      have e := someS h0
      subst e
      refine Qn.keep [4] (S' := [(4, .int .i64 (-1))]) (by kernel_rfl) ?_
      exact post_ret (v := .int .i64 (-1)) (fun a ha => RunRes.run (vs := [.int .i64 (-1)]) (.tmp (t := 4) (by kernel_rfl) .nil) ha (by kernel_rfl)) ⟨rfl, hI⟩
  · rw [if_neg hb5] at h0
    refine CodT.no' (b := y2) (by kernel_rfl) (by simpa using hb5) ?_
    refine CodT.skip ?_
    refine Qn.then ?_
    refine CodT.seq ?_
    refine CodT.seq ?_
    refine CodT.regionL [0] (by kernel_rfl) ?_
    refine OpsT.pures (r := []) [0] [0, 1, 13] (S' := [(0, .int .i64 a0), (1, .int .i64 a1), (13, .bool y4)]) (by kernel_rfl) ?_
    refine OpsT.done ?_
    refine Qn.then ?_
    by_cases hb7 : y4 = true
    · rw [if_pos hb7] at h0
      refine CodT.yes' (b := y4) (by kernel_rfl) hb7 ?_
      refine CodT.seq ?_
      refine CodT.regionL [0] (by kernel_rfl) ?_
      refine OpsT.pures (r := []) [0] [4] (S' := [(4, .int .i64 1)]) (by kernel_rfl) ?_
      refine OpsT.done ?_
      refine Qn.then ?_
      refine CodT.ret ?_
      refine Qn.ret_then ?_
      have e := someS h0
      subst e
      refine Qn.keep [4] (S' := [(4, .int .i64 1)]) (by kernel_rfl) ?_
      exact post_ret (v := .int .i64 1) (fun a ha => RunRes.run (vs := [.int .i64 1]) (.tmp (t := 4) (by kernel_rfl) .nil) ha (by kernel_rfl)) ⟨rfl, hI⟩
    · rw [if_neg hb7] at h0
      refine CodT.no' (b := y4) (by kernel_rfl) (by simpa using hb7) ?_
      refine CodT.skip ?_
      refine Qn.then ?_
      refine CodT.seq ?_
      refine CodT.seq ?_
      refine CodT.regionL [0, 1, 2] (by kernel_rfl) ?_
      refine OpsT.pures (r := []) [0, 1, 2] [0, 1, 16] (S' := [(0, .int .i64 a0), (1, .int .i64 a1), (16, .bool (decide (a0 < a1)))]) (by kernel_rfl) ?_
      refine OpsT.done ?_
      refine Qn.then ?_
      by_cases hb8 : (decide (a0 < a1)) = true
      · rw [if_pos hb8] at h0
        refine CodT.yes' (b := decide (a0 < a1)) (by kernel_rfl) hb8 ?_
        refine CodT.seq ?_
        refine CodT.regionL [0] (by kernel_rfl) ?_
        refine OpsT.pures (r := []) [0] [4] (S' := [(4, .int .i64 (-1))]) (by kernel_rfl) ?_
        refine OpsT.done ?_
        refine Qn.then ?_
        refine CodT.ret ?_
        refine Qn.ret_then ?_
        have e := someS h0
        subst e
        refine Qn.keep [4] (S' := [(4, .int .i64 (-1))]) (by kernel_rfl) ?_
        exact post_ret (v := .int .i64 (-1)) (fun a ha => RunRes.run (vs := [.int .i64 (-1)]) (.tmp (t := 4) (by kernel_rfl) .nil) ha (by kernel_rfl)) ⟨rfl, hI⟩
      · rw [if_neg hb8] at h0
        refine CodT.no' (b := decide (a0 < a1)) (by kernel_rfl) (by simpa using hb8) ?_
        refine CodT.skip ?_
        refine Qn.then ?_
        refine CodT.seq ?_
        refine CodT.seq ?_
        refine CodT.regionL [0, 1, 2] (by kernel_rfl) ?_
        refine OpsT.pures (r := []) [0, 1, 2] [19] (S' := [(19, .bool (decide (a0 > a1)))]) (by kernel_rfl) ?_
        refine OpsT.done ?_
        refine Qn.then ?_
        by_cases hb9 : (decide (a0 > a1)) = true
        · rw [if_pos hb9] at h0
          refine CodT.yes' (b := decide (a0 > a1)) (by kernel_rfl) hb9 ?_
          refine CodT.seq ?_
          refine CodT.regionL [0] (by kernel_rfl) ?_
          refine OpsT.pures (r := []) [0] [4] (S' := [(4, .int .i64 1)]) (by kernel_rfl) ?_
          refine OpsT.done ?_
          refine Qn.then ?_
          refine CodT.ret ?_
          refine Qn.ret_then ?_
          have e := someS h0
          subst e
          refine Qn.keep [4] (S' := [(4, .int .i64 1)]) (by kernel_rfl) ?_
          exact post_ret (v := .int .i64 1) (fun a ha => RunRes.run (vs := [.int .i64 1]) (.tmp (t := 4) (by kernel_rfl) .nil) ha (by kernel_rfl)) ⟨rfl, hI⟩
        · rw [if_neg hb9] at h0
          refine CodT.no' (b := decide (a0 > a1)) (by kernel_rfl) (by simpa using hb9) ?_
          refine CodT.skip ?_
          refine Qn.then ?_
          refine CodT.seq ?_
          refine CodT.regionL [0] (by kernel_rfl) ?_
          refine OpsT.pures (r := []) [0] [4] (S' := [(4, .int .i64 0)]) (by kernel_rfl) ?_
          refine OpsT.done ?_
          refine Qn.then ?_
          refine CodT.ret ?_
          have e := someS h0
          subst e
          refine Qn.keep [4] (S' := [(4, .int .i64 0)]) (by kernel_rfl) ?_
          exact post_ret (v := .int .i64 0) (fun a ha => RunRes.run (vs := [.int .i64 0]) (.tmp (t := 4) (by kernel_rfl) .nil) ha (by kernel_rfl)) ⟨rfl, hI⟩
set_option maxRecDepth 100000 in
set_option maxHeartbeats 4000000 in
/-- cenotaph/root.put[cenotaph/root.Entry]$1 -/
theorem c83 (w0 w : World) (Z : Hp) (A : HP) (hI : Inv w0 Z w A) (a0 : RootEntry) (b_a1 : Nat) (hz_a1 : Z b_a1 = some (.cells (([.func (.func 42) #[] #[]] : List Value)).toArray 77 (0, 0))) (b_a2 : Nat) (a2_v : Int) (hz_a2 : Z b_a2 = some (.cells (([.int .i64 a2_v] : List Value)).toArray 3 (0, 0))) (r : Bool) (h0 : root_put_rootEntry_1 a0 a2_v = some r) :
    Calls prog 83 #[.agg (c_RootEntry a0).toArray, .pointer (some ⟨b_a1, 0, none⟩), .pointer (some ⟨b_a2, 0, none⟩)] w (fun e w' => e = .returned (.bool r) ∧ Inv w0 Z w' A) := by
  have e4 := calls_intro (R := (fun e w' => e = .returned (.bool r) ∧ Inv w0 Z w' A)) (w := w) (args := [.agg (c_RootEntry a0).toArray, .pointer (some ⟨b_a1, 0, none⟩), .pointer (some ⟨b_a2, 0, none⟩)]) (fn := Go.Proofs.Try.f83) 11 Go.Proofs.Try.func83 (by rfl) Go.Proofs.Try.ntmps83 (by kernel_rfl)
  refine e4 ?_
  clear e4
  unfold root_put_rootEntry_1 at h0
  refine CodT.seq ?_
  refine CodT.regionL [0, 1] (by kernel_rfl) ?_
  refine OpsT.cons (Does.boxL (d := 3) (T := 47) (v := .agg (c_RootEntry a0).toArray) (c_RootEntry a0) (by kernel_rfl) hI (by kernel_rfl) ?_)
  intro b1 w hI
  refine OpsT.pures (r := []) [1] [1, 2, 3] (S' := [(1, .pointer (some ⟨b_a1, 0, none⟩)), (2, .pointer (some ⟨b_a2, 0, none⟩)), (3, .pointer (some ⟨b1, 0, none⟩))]) (by kernel_rfl) ?_
  refine OpsT.done ?_
  refine Qn.then ?_
  refine CodT.seq ?_
  refine CodT.drawI (n := 7) [] (by kernel_rfl) (by kernel_rfl) hI ?_
  intro w hI
  refine GmT.r (i := 0) 2 (by kernel_rfl) (by kernel_rfl) (Yl.load (d := 5) (T := 77) (v := .func (.func 42) #[] #[]) (by kernel_rfl) (ldZ ty77 (l := ([.func (.func 42) #[] #[]] : List Value)) (o := 0) (v := .func (.func 42) #[] #[]) hz_a1 (by kernel_rfl))) hI ?_
  refine GmT.r (i := 1) 2 (by kernel_rfl) (by kernel_rfl) (Yl.load (d := 6) (T := 47) (v := .agg (c_RootEntry a0).toArray) (by kernel_rfl) (ldBN ty47 (l := c_RootEntry a0) (o := 0) (cs := c_RootEntry a0) (ent_refl _) (by kernel_rfl) (whole _ _ (by kernel_rfl)))) hI ?_
  refine GmT.r (i := 3) 2 (by kernel_rfl) (by kernel_rfl) (Yl.load (d := 8) (T := 3) (v := .int .i64 a2_v) (by kernel_rfl) (ldZ ty3 (l := ([.int .i64 a2_v] : List Value)) (o := 0) (v := .int .i64 a2_v) hz_a2 (by kernel_rfl))) hI ?_
  obtain ⟨y3, hc2, h0⟩ := bindS h0
  try dsimp only at h0
  refine GmT.o (i := 2) (by kernel_rfl) (Does.call (d := some 7) (n := 42) (vs := [.agg (c_RootEntry a0).toArray]) (by kernel_rfl) en42 (c42 w0 w _ _ hI a0 _ hc2) ?_)
  rintro e w ⟨rfl, hI⟩
  refine ⟨_, rfl, ?_⟩
  refine ⟨fun _ _ => hI, ?_⟩
  obtain ⟨y5, hc4, h0⟩ := bindS h0
  try dsimp only at h0
  refine GmT.o (i := 4) (by kernel_rfl) (Does.call (d := some 9) (n := 84) (vs := [.int .i64 y3, .int .i64 a2_v]) (by kernel_rfl) en84 (c84 w0 w _ _ hI y3 a2_v _ hc4) ?_)
  rintro e w ⟨rfl, hI⟩
  refine ⟨_, rfl, ?_⟩
  refine ⟨fun _ _ => hI, ?_⟩
  refine GmT.p' 5 10 (.bool (decide (y5 ≥ 0))) (by kernel_rfl) (by kernel_rfl) ?_
  refine GmT.p' 6 4 (.bool (decide (y5 ≥ 0))) (by kernel_rfl) (by kernel_rfl) ?_
  refine GmT.done (by kernel_rfl) ?_
  refine Qn.then ?_
  refine CodT.ret ?_
  have hI := hI.drop
  have e := someS h0
  subst e
  refine Qn.keep [4] (S' := [(4, .bool (decide (y5 ≥ 0)))]) (by kernel_rfl) ?_
  exact post_ret (v := .bool (decide (y5 ≥ 0))) (fun a ha => RunRes.run (vs := [.bool (decide (y5 ≥ 0))]) (.tmp (t := 4) (by kernel_rfl) .nil) ha (by kernel_rfl)) ⟨rfl, hI⟩
set_option maxRecDepth 100000 in
set_option maxHeartbeats 4000000 in
/-- slices.IndexFunc[[]cenotaph/root.Entry,cenotaph/root.Entry] -/
theorem c65_2 (w0 w : World) (Z : Hp) (A : HP) (hI : Inv w0 Z w A) (A_a0 : Option Addr) (c_a0 : Nat) (a0 : (List RootEntry)) (hr_a0 : RdS Z c_RootEntry 4 A_a0 c_a0 a0) (b_a1_c0 : Nat) (hz_a1_c0 : Z b_a1_c0 = some (.cells (([.func (.func 42) #[] #[]] : List Value)).toArray 77 (0, 0))) (b_a1_c1 : Nat) (a1_c1_v : Int) (hz_a1_c1 : Z b_a1_c1 = some (.cells (([.int .i64 a1_c1_v] : List Value)).toArray 3 (0, 0))) (r : Int) (h0 : slices_IndexFunc_rootEntry__root_put_rootEntry_1 a0 a1_c1_v = some r) :
    Calls prog 65 #[.slice A_a0 a0.length c_a0, .func (.func 83) #[] #[.pointer (some ⟨b_a1_c0, 0, none⟩), .pointer (some ⟨b_a1_c1, 0, none⟩)]] w (fun e w' => e = .returned (.int .i64 r) ∧ Inv w0 Z w' A) := by
  have e4 := calls_intro (R := (fun e w' => e = .returned (.int .i64 r) ∧ Inv w0 Z w' A)) (w := w) (args := [.slice A_a0 a0.length c_a0, .func (.func 83) #[] #[.pointer (some ⟨b_a1_c0, 0, none⟩), .pointer (some ⟨b_a1_c1, 0, none⟩)]]) (fn := Go.Proofs.Try.f65) 19 Go.Proofs.Try.func65 (by rfl) Go.Proofs.Try.ntmps65 (by kernel_rfl)
  refine e4 ?_
  clear e4
  unfold slices_IndexFunc_rootEntry__root_put_rootEntry_1 at h0
  refine CodT.seq ?_
  refine CodT.regionL [0] (by kernel_rfl) ?_
  refine OpsT.pures (r := []) [0] [0, 1] (S' := [(0, .slice A_a0 a0.length c_a0), (1, .func (.func 83) #[] #[.pointer (some ⟨b_a1_c0, 0, none⟩), .pointer (some ⟨b_a1_c1, 0, none⟩)])]) (by kernel_rfl) ?_
  refine OpsT.done ?_
  refine Qn.then ?_
  refine CodT.seq ?_
  refine CodT.seq ?_
  refine CodT.regionL [0, 1, 2] (by kernel_rfl) ?_
  refine OpsT.pures (r := []) [0, 1, 2] [0, 1, 7, 8] (S' := [(0, .slice A_a0 a0.length c_a0), (1, .func (.func 83) #[] #[.pointer (some ⟨b_a1_c0, 0, none⟩), .pointer (some ⟨b_a1_c1, 0, none⟩)]), (7, .int .i64 (a0.length : Int)), (8, .int .i64 0)]) (by kernel_rfl) ?_
  refine OpsT.done ?_
  refine Qn.then ?_
  obtain ⟨r1, h1, h0⟩ := bindS h0
  refine CodT.meet1 (fun a w => .inr () = r1 ∧ Fr 19 [] a ∧ Inv w0 Z w A) ?_ ?_
  ·
    refine CodT.block ?_
    refine (fun a ha => wp_loopN (fun k a w => ∃ (x1 : Int), slices_IndexFunc_rootEntry__root_put_rootEntry_1.l0 a0 a1_c1_v k x1 = some r1 ∧ Fr 19 [(0, .slice A_a0 a0.length c_a0), (1, .func (.func 83) #[] #[.pointer (some ⟨b_a1_c0, 0, none⟩), .pointer (some ⟨b_a1_c1, 0, none⟩)]), (7, .int .i64 (a0.length : Int)), (8, .int .i64 x1)] a ∧ Inv w0 Z w A) ?_ FU a w ⟨0, h1, ha.keep [0, 1, 7, 8] (by kernel_rfl), hI⟩)
    clear h1 hI
    rintro k a w ⟨x1, h1, ha, hI⟩
    rcases k with _ | k
    · cases h1
    simp only [slices_IndexFunc_rootEntry__root_put_rootEntry_1.l0] at h1
    refine CodT.of ?_ ha
    refine CodT.seq ?_
    refine CodT.regionL [0] (by kernel_rfl) ?_
    refine OpsT.pures (r := []) [0] [0, 1, 7, 8, 9] (S' := [(0, .slice A_a0 a0.length c_a0), (1, .func (.func 83) #[] #[.pointer (some ⟨b_a1_c0, 0, none⟩), .pointer (some ⟨b_a1_c1, 0, none⟩)]), (7, .int .i64 (a0.length : Int)), (8, .int .i64 x1), (9, .bool (decide (x1 < (a0.length : Int))))]) (by kernel_rfl) ?_
    refine OpsT.done ?_
    refine Qn.then ?_
    refine CodT.seq ?_
    by_cases hb2 : (decide (x1 < (a0.length : Int))) = true
    · rw [if_pos hb2] at h1
      refine CodT.yes' (b := decide (x1 < (a0.length : Int))) (by kernel_rfl) hb2 ?_
      refine CodT.skip ?_
      refine Qn.then ?_
      refine CodT.seq ?_
      refine CodT.block ?_
      refine CodT.seq ?_
      refine CodT.regionL [0, 1] (by kernel_rfl) ?_
      refine OpsT.pures (r := []) [0, 1] [0, 1, 5, 7, 8] (S' := [(0, .slice A_a0 a0.length c_a0), (1, .func (.func 83) #[] #[.pointer (some ⟨b_a1_c0, 0, none⟩), .pointer (some ⟨b_a1_c1, 0, none⟩)]), (5, .int .i64 x1), (7, .int .i64 (a0.length : Int)), (8, .int .i64 x1)]) (by kernel_rfl) ?_
      refine OpsT.done ?_
      refine Qn.then ?_
      refine CodT.seq ?_
      refine CodT.regionL [0, 1, 2, 3, 4, 5] (by kernel_rfl) ?_
      refine OpsT.pures (r := [3, 4, 5]) [0, 1, 2] [0, 1, 5, 7, 8, 11, 12, 13] (S' := [(0, .slice A_a0 a0.length c_a0), (1, .func (.func 83) #[] #[.pointer (some ⟨b_a1_c0, 0, none⟩), .pointer (some ⟨b_a1_c1, 0, none⟩)]), (5, .int .i64 x1), (7, .int .i64 (a0.length : Int)), (8, .int .i64 x1), (11, .func (.func 83) #[] #[.pointer (some ⟨b_a1_c0, 0, none⟩), .pointer (some ⟨b_a1_c1, 0, none⟩)]), (12, .slice A_a0 a0.length c_a0), (13, .int .i64 x1)]) (by kernel_rfl) ?_
      obtain ⟨hg3, h1⟩ := guardS h1
      obtain ⟨g4, o8, hA5, hr6, hl7⟩ := RdS.get hr_a0 hg3.1 hg3.2
      refine OpsT.cons (Does.yi (Yl.indexSlice (d := 14) (T := 22) (cc := c_a0) (k := .i64) (j := x1) (g := g4) (o := o8) (by kernel_rfl) Go.Proofs.Try.underlying22 ty47 hA5 hg3.1 hg3.2) hI ?_)
      refine OpsT.cons (Does.yi (Yl.load (d := 15) (T := 47) (v := .agg (c_RootEntry (gt a0 x1)).toArray) (by kernel_rfl) (ldRN ty47 (cs := c_RootEntry (gt a0 x1)) 0 (fun w hC => hr6 w0 w _ hC) hl7 (whole _ _ hl7))) hI ?_)
      obtain ⟨y10, hc9, h1⟩ := bindS h1
      try dsimp only at h1
      refine OpsT.cons (Does.call (d := some 16) (n := 83) (vs := [.agg (c_RootEntry (gt a0 x1)).toArray, .pointer (some ⟨b_a1_c0, 0, none⟩), .pointer (some ⟨b_a1_c1, 0, none⟩)]) (by kernel_rfl) en83 (c83 w0 w _ _ hI (gt a0 x1) b_a1_c0 hz_a1_c0 b_a1_c1 a1_c1_v hz_a1_c1 _ hc9) ?_)
      rintro e w ⟨rfl, hI⟩
      refine ⟨_, rfl, ?_⟩
      refine OpsT.done ?_
      refine Qn.then ?_
      by_cases hb11 : y10 = true
      · rw [if_pos hb11] at h1
        refine CodT.yes' (b := y10) (by kernel_rfl) hb11 ?_
        refine CodT.seq ?_
        refine CodT.regionL [0, 1] (by kernel_rfl) ?_
        refine OpsT.pures (r := []) [0, 1] [4] (S' := [(4, .int .i64 x1)]) (by kernel_rfl) ?_
        refine OpsT.done ?_
        refine Qn.then ?_
        refine CodT.ret ?_
        refine Qn.block_ret ?_
        refine Qn.ret_then ?_
        refine Qn.ret_then ?_
        refine Qn.block_ret ?_
        refine Qn.ret_then ?_
        refine Qn.ret_then ?_
        have e := someS h1
        subst e
        try dsimp only at h0
        have e := someS h0
        subst e
        refine Qn.keep [4] (S' := [(4, .int .i64 x1)]) (by kernel_rfl) ?_
        exact post_ret (v := .int .i64 x1) (fun a ha => RunRes.run (vs := [.int .i64 x1]) (.tmp (t := 4) (by kernel_rfl) .nil) ha (by kernel_rfl)) ⟨rfl, hI⟩
      · rw [if_neg hb11] at h1
        refine CodT.no' (b := y10) (by kernel_rfl) (by simpa using hb11) ?_
        refine CodT.skip ?_
        refine Qn.block_normal ?_
        refine Qn.then ?_
        refine CodT.regionL [0, 1] (by kernel_rfl) ?_
        refine OpsT.pures (r := []) [0, 1] [0, 1, 7, 8] (S' := [(0, .slice A_a0 a0.length c_a0), (1, .func (.func 83) #[] #[.pointer (some ⟨b_a1_c0, 0, none⟩), .pointer (some ⟨b_a1_c1, 0, none⟩)]), (7, .int .i64 (a0.length : Int)), (8, .int .i64 (wi64 (x1 + 1)))]) (by kernel_rfl) ?_
        refine OpsT.done ?_
        exact Qn.thenJ fun a ha => ⟨k, Nat.lt_succ_self k, wi64 (x1 + 1), h1, ha.keep [0, 1, 7, 8] (by kernel_rfl), hI⟩
    · rw [if_neg hb2] at h1
      refine CodT.no' (b := decide (x1 < (a0.length : Int))) (by kernel_rfl) (by simpa using hb2) ?_
      refine CodT.exit ?_
      refine Qn.exit_then ?_
      refine Qn.exit_then ?_
      refine Qn.block ?_
      have e := someS h1
      subst e
      exact Qn.thenJ fun a ha => ⟨rfl, ha.keep [] (by kernel_rfl), hI⟩
  ·
    rintro a w ⟨rfl, ha, hI⟩
    try dsimp only at h0
    refine Qn.of ?_ ha
    refine Qn.then ?_
    refine CodT.seq ?_
    refine CodT.regionL [0] (by kernel_rfl) ?_
    refine OpsT.pures (r := []) [0] [4] (S' := [(4, .int .i64 (-1))]) (by kernel_rfl) ?_
    refine OpsT.done ?_
    refine Qn.then ?_
    refine CodT.ret ?_
    have e := someS h0
    subst e
    refine Qn.keep [4] (S' := [(4, .int .i64 (-1))]) (by kernel_rfl) ?_
    exact post_ret (v := .int .i64 (-1)) (fun a ha => RunRes.run (vs := [.int .i64 (-1)]) (.tmp (t := 4) (by kernel_rfl) .nil) ha (by kernel_rfl)) ⟨rfl, hI⟩
set_option maxRecDepth 100000 in
set_option maxHeartbeats 4000000 in
/-- slices.Clone[[]cenotaph/root.Entry,cenotaph/root.Entry] -/
theorem c62 (w0 w : World) (Z : Hp) (A : HP) (hI : Inv w0 Z w A) (A_a0 : Option Addr) (c_a0 : Nat) (a0 : (List RootEntry)) (hr_a0 : RdS Z c_RootEntry 4 A_a0 c_a0 a0) (r : (List RootEntry)) (h0 : slices_Clone_rootEntry a0 = some r) :
    Calls prog 62 #[.slice A_a0 a0.length c_a0] w (fun e w' => ∃ (A1 : Option Addr) (c1 : Nat), e = .returned (.slice A1 r.length c1) ∧ Inv w0 Z w' (star (ownS 47 c_RootEntry 4 A1 c1 r) A)) := by
  have e4 := calls_intro (R := (fun e w' => ∃ (A1 : Option Addr) (c1 : Nat), e = .returned (.slice A1 r.length c1) ∧ Inv w0 Z w' (star (ownS 47 c_RootEntry 4 A1 c1 r) A))) (w := w) (args := [.slice A_a0 a0.length c_a0]) (fn := Go.Proofs.Try.f62) 8 Go.Proofs.Try.func62 (by rfl) Go.Proofs.Try.ntmps62 (by kernel_rfl)
  refine e4 ?_
  clear e4
  unfold slices_Clone_rootEntry at h0
  refine CodT.seq ?_
  refine CodT.regionL [0] (by kernel_rfl) ?_
  refine OpsT.pures (r := []) [0] [0] (S' := [(0, .slice A_a0 a0.length c_a0)]) (by kernel_rfl) ?_
  refine OpsT.done ?_
  refine Qn.then ?_
  refine CodT.seq ?_
  refine CodT.seq ?_
  refine CodT.regionL [0, 1] (by kernel_rfl) ?_
  refine OpsT.pures (r := [1]) [0] [0, 3] (S' := [(0, .slice A_a0 a0.length c_a0), (3, .slice A_a0 a0.length c_a0)]) (by kernel_rfl) ?_
  rcases A_a0 with _ | ad1
  rotate_left
  ·
    refine OpsT.cons (Does.yi (Yl.eqlNilF (d := 4) (T := 22) (n := a0.length) (c := c_a0) (ad := ad1) (by kernel_rfl) Go.Proofs.Try.underlying22 (by kernel_rfl)) hI ?_)
    refine OpsT.done ?_
    refine Qn.then ?_
    refine CodT.no (by kernel_rfl) ?_
    refine CodT.skip ?_
    refine Qn.then ?_
    refine CodT.seq ?_
    refine CodT.regionL [0, 1, 2, 3] (by kernel_rfl) ?_
    refine OpsT.cons (Does.buildSlice0 (en := c_RootEntry) (d := 5) (T := 22) (by kernel_rfl) Go.Proofs.Try.underlying22 ty47 hI ?_)
    intro b2 w hI
    refine OpsT.pures (r := [2, 3]) [1] [5, 6] (S' := [(5, .slice (some ⟨b2, 0, none⟩) (([] : List RootEntry).length) 0), (6, .slice (some ad1) a0.length c_a0)]) (by kernel_rfl) ?_
    obtain ⟨hg3, h0⟩ := guardS h0
    refine OpsT.cons (Does.append (d := 7) (t := 22) (tx := 22) (ty := 22) (ys := ([] : List RootEntry)) (zs := a0) (x := .slice (some ad1) a0.length c_a0) (by kernel_rfl) Go.Proofs.Try.underlying22 ty47 (by kernel_rfl) hI (src_rd Go.Proofs.Try.underlying22 hI hr_a0 (one_flat _ (fun _ => rfl))) hr_a0.2.2.1 (by unfold LIM at hg3; omega) hg3 ?_)
    intro A4 cp5 w hI
    refine OpsT.pures (r := []) [3] [2] (S' := [(2, .slice A4 ((([] : List RootEntry) ++ a0).length) cp5)]) (by kernel_rfl) ?_
    refine OpsT.done ?_
    refine Qn.then ?_
    refine CodT.ret ?_
    have e := someS h0
    subst e
    refine Qn.keep [2] (S' := [(2, .slice A4 ((([] : List RootEntry) ++ a0).length) cp5)]) (by kernel_rfl) ?_
    exact post_ret (v := .slice A4 ((([] : List RootEntry) ++ a0).length) cp5) (fun a ha => RunRes.run (vs := [.slice A4 ((([] : List RootEntry) ++ a0).length) cp5]) (.tmp (t := 2) (by kernel_rfl) .nil) ha (by kernel_rfl)) ⟨A4, cp5, rfl, hI⟩
  ·
    have hy6 := RdS.of_none hr_a0
    subst hy6
    replace h0 : some ([] : List RootEntry) = some r := by simpa [LIM] using h0
    refine OpsT.cons (Does.yi (Yl.eqlNilT (d := 4) (T := 22) (n := ([] : List RootEntry).length) (c := c_a0) (by kernel_rfl) Go.Proofs.Try.underlying22 (by kernel_rfl)) hI ?_)
    refine OpsT.done ?_
    refine Qn.then ?_
    refine CodT.yes (by kernel_rfl) ?_
    refine CodT.seq ?_
    refine CodT.regionL [0] (by kernel_rfl) ?_
    refine OpsT.pures (r := []) [0] [2] (S' := [(2, .slice none 0 0)]) (by kernel_rfl) ?_
    refine OpsT.done ?_
    refine Qn.then ?_
    refine CodT.ret ?_
    refine Qn.ret_then ?_
    have hI := ownS_nil (α := RootEntry) hI 47 c_RootEntry 4
    have e := someS h0
    subst e
    refine Qn.keep [2] (S' := [(2, .slice none 0 0)]) (by kernel_rfl) ?_
    exact post_ret (v := .slice none 0 0) (fun a ha => RunRes.run (vs := [.slice none 0 0]) (.tmp (t := 2) (by kernel_rfl) .nil) ha (by kernel_rfl)) ⟨none, 0, rfl, hI⟩
set_option maxRecDepth 100000 in
set_option maxHeartbeats 4000000 in
/-- cenotaph/root.put[cenotaph/root.Entry]$2 -/
theorem c85 (w0 w : World) (Z : Hp) (A : HP) (hI : Inv w0 Z w A) (a0 : RootEntry) (b_a1 : Nat) (hz_a1 : Z b_a1 = some (.cells (([.func (.func 42) #[] #[]] : List Value)).toArray 77 (0, 0))) (b_a2 : Nat) (a2_v : Int) (hz_a2 : Z b_a2 = some (.cells (([.int .i64 a2_v] : List Value)).toArray 3 (0, 0))) (r : Bool) (h0 : root_put_rootEntry_2 a0 a2_v = some r) :
    Calls prog 85 #[.agg (c_RootEntry a0).toArray, .pointer (some ⟨b_a1, 0, none⟩), .pointer (some ⟨b_a2, 0, none⟩)] w (fun e w' => e = .returned (.bool r) ∧ Inv w0 Z w' A) := by
  have e4 := calls_intro (R := (fun e w' => e = .returned (.bool r) ∧ Inv w0 Z w' A)) (w := w) (args := [.agg (c_RootEntry a0).toArray, .pointer (some ⟨b_a1, 0, none⟩), .pointer (some ⟨b_a2, 0, none⟩)]) (fn := Go.Proofs.Try.f85) 10 Go.Proofs.Try.func85 (by rfl) Go.Proofs.Try.ntmps85 (by kernel_rfl)
  refine e4 ?_
  clear e4
  unfold root_put_rootEntry_2 at h0
  refine CodT.seq ?_
  refine CodT.regionL [0, 1] (by kernel_rfl) ?_
  refine OpsT.cons (Does.boxL (d := 3) (T := 47) (v := .agg (c_RootEntry a0).toArray) (c_RootEntry a0) (by kernel_rfl) hI (by kernel_rfl) ?_)
  intro b1 w hI
  refine OpsT.pures (r := []) [1] [1, 2, 3] (S' := [(1, .pointer (some ⟨b_a1, 0, none⟩)), (2, .pointer (some ⟨b_a2, 0, none⟩)), (3, .pointer (some ⟨b1, 0, none⟩))]) (by kernel_rfl) ?_
  refine OpsT.done ?_
  refine Qn.then ?_
  refine CodT.seq ?_
  refine CodT.drawI (n := 6) [] (by kernel_rfl) (by kernel_rfl) hI ?_
  intro w hI
  refine GmT.r (i := 0) 2 (by kernel_rfl) (by kernel_rfl) (Yl.load (d := 5) (T := 77) (v := .func (.func 42) #[] #[]) (by kernel_rfl) (ldZ ty77 (l := ([.func (.func 42) #[] #[]] : List Value)) (o := 0) (v := .func (.func 42) #[] #[]) hz_a1 (by kernel_rfl))) hI ?_
  refine GmT.r (i := 1) 2 (by kernel_rfl) (by kernel_rfl) (Yl.load (d := 6) (T := 47) (v := .agg (c_RootEntry a0).toArray) (by kernel_rfl) (ldBN ty47 (l := c_RootEntry a0) (o := 0) (cs := c_RootEntry a0) (ent_refl _) (by kernel_rfl) (whole _ _ (by kernel_rfl)))) hI ?_
  refine GmT.r (i := 3) 2 (by kernel_rfl) (by kernel_rfl) (Yl.load (d := 8) (T := 3) (v := .int .i64 a2_v) (by kernel_rfl) (ldZ ty3 (l := ([.int .i64 a2_v] : List Value)) (o := 0) (v := .int .i64 a2_v) hz_a2 (by kernel_rfl))) hI ?_
  obtain ⟨y3, hc2, h0⟩ := bindS h0
  try dsimp only at h0
  refine GmT.o (i := 2) (by kernel_rfl) (Does.call (d := some 7) (n := 42) (vs := [.agg (c_RootEntry a0).toArray]) (by kernel_rfl) en42 (c42 w0 w _ _ hI a0 _ hc2) ?_)
  rintro e w ⟨rfl, hI⟩
  refine ⟨_, rfl, ?_⟩
  refine ⟨fun _ _ => hI, ?_⟩
  refine GmT.p' 4 9 (.bool (y3 == a2_v)) (by kernel_rfl) (by kernel_rfl) ?_
  refine GmT.p' 5 4 (.bool (y3 == a2_v)) (by kernel_rfl) (by kernel_rfl) ?_
  refine GmT.done (by kernel_rfl) ?_
  refine Qn.then ?_
  refine CodT.ret ?_
  have hI := hI.drop
  have e := someS h0
  subst e
  refine Qn.keep [4] (S' := [(4, .bool (y3 == a2_v))]) (by kernel_rfl) ?_
  exact post_ret (v := .bool (y3 == a2_v)) (fun a ha => RunRes.run (vs := [.bool (y3 == a2_v)]) (.tmp (t := 4) (by kernel_rfl) .nil) ha (by kernel_rfl)) ⟨rfl, hI⟩
set_option maxRecDepth 100000 in
set_option maxHeartbeats 4000000 in
/-- slices.IndexFunc[[]cenotaph/root.Entry,cenotaph/root.Entry] -/
theorem c65_3 (w0 w : World) (Z : Hp) (A : HP) (hI : Inv w0 Z w A) (A_a0 : Option Addr) (c_a0 : Nat) (a0 : (List RootEntry)) (hr_a0 : RdS Z c_RootEntry 4 A_a0 c_a0 a0) (b_a1_c0 : Nat) (hz_a1_c0 : Z b_a1_c0 = some (.cells (([.func (.func 42) #[] #[]] : List Value)).toArray 77 (0, 0))) (b_a1_c1 : Nat) (a1_c1_v : Int) (hz_a1_c1 : Z b_a1_c1 = some (.cells (([.int .i64 a1_c1_v] : List Value)).toArray 3 (0, 0))) (r : Int) (h0 : slices_IndexFunc_rootEntry__root_put_rootEntry_2 a0 a1_c1_v = some r) :
    Calls prog 65 #[.slice A_a0 a0.length c_a0, .func (.func 85) #[] #[.pointer (some ⟨b_a1_c0, 0, none⟩), .pointer (some ⟨b_a1_c1, 0, none⟩)]] w (fun e w' => e = .returned (.int .i64 r) ∧ Inv w0 Z w' A) := by
  have e4 := calls_intro (R := (fun e w' => e = .returned (.int .i64 r) ∧ Inv w0 Z w' A)) (w := w) (args := [.slice A_a0 a0.length c_a0, .func (.func 85) #[] #[.pointer (some ⟨b_a1_c0, 0, none⟩), .pointer (some ⟨b_a1_c1, 0, none⟩)]]) (fn := Go.Proofs.Try.f65) 19 Go.Proofs.Try.func65 (by rfl) Go.Proofs.Try.ntmps65 (by kernel_rfl)
  refine e4 ?_
  clear e4
  unfold slices_IndexFunc_rootEntry__root_put_rootEntry_2 at h0
  refine CodT.seq ?_
  refine CodT.regionL [0] (by kernel_rfl) ?_
  refine OpsT.pures (r := []) [0] [0, 1] (S' := [(0, .slice A_a0 a0.length c_a0), (1, .func (.func 85) #[] #[.pointer (some ⟨b_a1_c0, 0, none⟩), .pointer (some ⟨b_a1_c1, 0, none⟩)])]) (by kernel_rfl) ?_
  refine OpsT.done ?_
  refine Qn.then ?_
  refine CodT.seq ?_
  refine CodT.seq ?_
  refine CodT.regionL [0, 1, 2] (by kernel_rfl) ?_
  refine OpsT.pures (r := []) [0, 1, 2] [0, 1, 7, 8] (S' := [(0, .slice A_a0 a0.length c_a0), (1, .func (.func 85) #[] #[.pointer (some ⟨b_a1_c0, 0, none⟩), .pointer (some ⟨b_a1_c1, 0, none⟩)]), (7, .int .i64 (a0.length : Int)), (8, .int .i64 0)]) (by kernel_rfl) ?_
  refine OpsT.done ?_
  refine Qn.then ?_
  obtain ⟨r1, h1, h0⟩ := bindS h0
  refine CodT.meet1 (fun a w => .inr () = r1 ∧ Fr 19 [] a ∧ Inv w0 Z w A) ?_ ?_
  ·
    refine CodT.block ?_
    refine (fun a ha => wp_loopN (fun k a w => ∃ (x1 : Int), slices_IndexFunc_rootEntry__root_put_rootEntry_2.l0 a0 a1_c1_v k x1 = some r1 ∧ Fr 19 [(0, .slice A_a0 a0.length c_a0), (1, .func (.func 85) #[] #[.pointer (some ⟨b_a1_c0, 0, none⟩), .pointer (some ⟨b_a1_c1, 0, none⟩)]), (7, .int .i64 (a0.length : Int)), (8, .int .i64 x1)] a ∧ Inv w0 Z w A) ?_ FU a w ⟨0, h1, ha.keep [0, 1, 7, 8] (by kernel_rfl), hI⟩)
    clear h1 hI
    rintro k a w ⟨x1, h1, ha, hI⟩
    rcases k with _ | k
    · cases h1
    simp only [slices_IndexFunc_rootEntry__root_put_rootEntry_2.l0] at h1
    refine CodT.of ?_ ha
    refine CodT.seq ?_
    refine CodT.regionL [0] (by kernel_rfl) ?_
    refine OpsT.pures (r := []) [0] [0, 1, 7, 8, 9] (S' := [(0, .slice A_a0 a0.length c_a0), (1, .func (.func 85) #[] #[.pointer (some ⟨b_a1_c0, 0, none⟩), .pointer (some ⟨b_a1_c1, 0, none⟩)]), (7, .int .i64 (a0.length : Int)), (8, .int .i64 x1), (9, .bool (decide (x1 < (a0.length : Int))))]) (by kernel_rfl) ?_
    refine OpsT.done ?_
    refine Qn.then ?_
    refine CodT.seq ?_
    by_cases hb2 : (decide (x1 < (a0.length : Int))) = true
    · rw [if_pos hb2] at h1
      refine CodT.yes' (b := decide (x1 < (a0.length : Int))) (by kernel_rfl) hb2 ?_
      refine CodT.skip ?_
      refine Qn.then ?_
      refine CodT.seq ?_
      refine CodT.block ?_
      refine CodT.seq ?_
      refine CodT.regionL [0, 1] (by kernel_rfl) ?_
      refine OpsT.pures (r := []) [0, 1] [0, 1, 5, 7, 8] (S' := [(0, .slice A_a0 a0.length c_a0), (1, .func (.func 85) #[] #[.pointer (some ⟨b_a1_c0, 0, none⟩), .pointer (some ⟨b_a1_c1, 0, none⟩)]), (5, .int .i64 x1), (7, .int .i64 (a0.length : Int)), (8, .int .i64 x1)]) (by kernel_rfl) ?_
      refine OpsT.done ?_
      refine Qn.then ?_
      refine CodT.seq ?_
      refine CodT.regionL [0, 1, 2, 3, 4, 5] (by kernel_rfl) ?_
      refine OpsT.pures (r := [3, 4, 5]) [0, 1, 2] [0, 1, 5, 7, 8, 11, 12, 13] (S' := [(0, .slice A_a0 a0.length c_a0), (1, .func (.func 85) #[] #[.pointer (some ⟨b_a1_c0, 0, none⟩), .pointer (some ⟨b_a1_c1, 0, none⟩)]), (5, .int .i64 x1), (7, .int .i64 (a0.length : Int)), (8, .int .i64 x1), (11, .func (.func 85) #[] #[.pointer (some ⟨b_a1_c0, 0, none⟩), .pointer (some ⟨b_a1_c1, 0, none⟩)]), (12, .slice A_a0 a0.length c_a0), (13, .int .i64 x1)]) (by kernel_rfl) ?_
      obtain ⟨hg3, h1⟩ := guardS h1
      obtain ⟨g4, o8, hA5, hr6, hl7⟩ := RdS.get hr_a0 hg3.1 hg3.2
      refine OpsT.cons (Does.yi (Yl.indexSlice (d := 14) (T := 22) (cc := c_a0) (k := .i64) (j := x1) (g := g4) (o := o8) (by kernel_rfl) Go.Proofs.Try.underlying22 ty47 hA5 hg3.1 hg3.2) hI ?_)
      refine OpsT.cons (Does.yi (Yl.load (d := 15) (T := 47) (v := .agg (c_RootEntry (gt a0 x1)).toArray) (by kernel_rfl) (ldRN ty47 (cs := c_RootEntry (gt a0 x1)) 0 (fun w hC => hr6 w0 w _ hC) hl7 (whole _ _ hl7))) hI ?_)
      obtain ⟨y10, hc9, h1⟩ := bindS h1
      try dsimp only at h1
      refine OpsT.cons (Does.call (d := some 16) (n := 85) (vs := [.agg (c_RootEntry (gt a0 x1)).toArray, .pointer (some ⟨b_a1_c0, 0, none⟩), .pointer (some ⟨b_a1_c1, 0, none⟩)]) (by kernel_rfl) en85 (c85 w0 w _ _ hI (gt a0 x1) b_a1_c0 hz_a1_c0 b_a1_c1 a1_c1_v hz_a1_c1 _ hc9) ?_)
      rintro e w ⟨rfl, hI⟩
      refine ⟨_, rfl, ?_⟩
      refine OpsT.done ?_
      refine Qn.then ?_
      by_cases hb11 : y10 = true
      · rw [if_pos hb11] at h1
        refine CodT.yes' (b := y10) (by kernel_rfl) hb11 ?_
        refine CodT.seq ?_
        refine CodT.regionL [0, 1] (by kernel_rfl) ?_
        refine OpsT.pures (r := []) [0, 1] [4] (S' := [(4, .int .i64 x1)]) (by kernel_rfl) ?_
        refine OpsT.done ?_
        refine Qn.then ?_
        refine CodT.ret ?_
        refine Qn.block_ret ?_
        refine Qn.ret_then ?_
        refine Qn.ret_then ?_
        refine Qn.block_ret ?_
        refine Qn.ret_then ?_
        refine Qn.ret_then ?_
        have e := someS h1
        subst e
        try dsimp only at h0
        have e := someS h0
        subst e
        refine Qn.keep [4] (S' := [(4, .int .i64 x1)]) (by kernel_rfl) ?_
        exact post_ret (v := .int .i64 x1) (fun a ha => RunRes.run (vs := [.int .i64 x1]) (.tmp (t := 4) (by kernel_rfl) .nil) ha (by kernel_rfl)) ⟨rfl, hI⟩
      · rw [if_neg hb11] at h1
        refine CodT.no' (b := y10) (by kernel_rfl) (by simpa using hb11) ?_
        refine CodT.skip ?_
        refine Qn.block_normal ?_
        refine Qn.then ?_
        refine CodT.regionL [0, 1] (by kernel_rfl) ?_
        refine OpsT.pures (r := []) [0, 1] [0, 1, 7, 8] (S' := [(0, .slice A_a0 a0.length c_a0), (1, .func (.func 85) #[] #[.pointer (some ⟨b_a1_c0, 0, none⟩), .pointer (some ⟨b_a1_c1, 0, none⟩)]), (7, .int .i64 (a0.length : Int)), (8, .int .i64 (wi64 (x1 + 1)))]) (by kernel_rfl) ?_
        refine OpsT.done ?_
        exact Qn.thenJ fun a ha => ⟨k, Nat.lt_succ_self k, wi64 (x1 + 1), h1, ha.keep [0, 1, 7, 8] (by kernel_rfl), hI⟩
    · rw [if_neg hb2] at h1
      refine CodT.no' (b := decide (x1 < (a0.length : Int))) (by kernel_rfl) (by simpa using hb2) ?_
      refine CodT.exit ?_
      refine Qn.exit_then ?_
      refine Qn.exit_then ?_
      refine Qn.block ?_
      have e := someS h1
      subst e
      exact Qn.thenJ fun a ha => ⟨rfl, ha.keep [] (by kernel_rfl), hI⟩
  ·
    rintro a w ⟨rfl, ha, hI⟩
    try dsimp only at h0
    refine Qn.of ?_ ha
    refine Qn.then ?_
    refine CodT.seq ?_
    refine CodT.regionL [0] (by kernel_rfl) ?_
    refine OpsT.pures (r := []) [0] [4] (S' := [(4, .int .i64 (-1))]) (by kernel_rfl) ?_
    refine OpsT.done ?_
    refine Qn.then ?_
    refine CodT.ret ?_
    have e := someS h0
    subst e
    refine Qn.keep [4] (S' := [(4, .int .i64 (-1))]) (by kernel_rfl) ?_
    exact post_ret (v := .int .i64 (-1)) (fun a ha => RunRes.run (vs := [.int .i64 (-1)]) (.tmp (t := 4) (by kernel_rfl) .nil) ha (by kernel_rfl)) ⟨rfl, hI⟩
set_option maxRecDepth 100000 in
set_option maxHeartbeats 4000000 in
/-- slices.IndexFunc[[]cenotaph/root.Entry,cenotaph/root.Entry] -/
theorem c65_4 (w0 w : World) (Z : Hp) (A : HP)  (A_a0 : Option Addr) (c_a0 : Nat) (a0 : (List RootEntry)) (b_a1_c0 : Nat) (hz_a1_c0 : Z b_a1_c0 = some (.cells (([.func (.func 42) #[] #[]] : List Value)).toArray 77 (0, 0))) (b_a1_c1 : Nat) (a1_c1_v : Int) (hz_a1_c1 : Z b_a1_c1 = some (.cells (([.int .i64 a1_c1_v] : List Value)).toArray 3 (0, 0))) (hI : Inv w0 Z w (star (ownS 47 c_RootEntry 4 A_a0 c_a0 a0) A)) (r : (Int × (List RootEntry))) (h0 : slices_IndexFunc_rootEntry__root_put_rootEntry_2_m a0 a1_c1_v = some r) :
    Calls prog 65 #[.slice A_a0 a0.length c_a0, .func (.func 85) #[] #[.pointer (some ⟨b_a1_c0, 0, none⟩), .pointer (some ⟨b_a1_c1, 0, none⟩)]] w (fun e w' => e = .returned (.int .i64 r.1) ∧ r.2.length = a0.length ∧ Inv w0 Z w' (star (ownS 47 c_RootEntry 4 A_a0 c_a0 r.2) A)) := by
  have e4 := calls_intro (R := (fun e w' => e = .returned (.int .i64 r.1) ∧ r.2.length = a0.length ∧ Inv w0 Z w' (star (ownS 47 c_RootEntry 4 A_a0 c_a0 r.2) A))) (w := w) (args := [.slice A_a0 a0.length c_a0, .func (.func 85) #[] #[.pointer (some ⟨b_a1_c0, 0, none⟩), .pointer (some ⟨b_a1_c1, 0, none⟩)]]) (fn := Go.Proofs.Try.f65) 19 Go.Proofs.Try.func65 (by rfl) Go.Proofs.Try.ntmps65 (by kernel_rfl)
  refine e4 ?_
  clear e4
  unfold slices_IndexFunc_rootEntry__root_put_rootEntry_2_m at h0
  refine CodT.seq ?_
  refine CodT.regionL [0] (by kernel_rfl) ?_
  refine OpsT.pures (r := []) [0] [0, 1] (S' := [(0, .slice A_a0 a0.length c_a0), (1, .func (.func 85) #[] #[.pointer (some ⟨b_a1_c0, 0, none⟩), .pointer (some ⟨b_a1_c1, 0, none⟩)])]) (by kernel_rfl) ?_
  refine OpsT.done ?_
  refine Qn.then ?_
  refine CodT.seq ?_
  refine CodT.seq ?_
  refine CodT.regionL [0, 1, 2] (by kernel_rfl) ?_
  refine OpsT.pures (r := []) [0, 1, 2] [0, 1, 7, 8] (S' := [(0, .slice A_a0 a0.length c_a0), (1, .func (.func 85) #[] #[.pointer (some ⟨b_a1_c0, 0, none⟩), .pointer (some ⟨b_a1_c1, 0, none⟩)]), (7, .int .i64 (a0.length : Int)), (8, .int .i64 0)]) (by kernel_rfl) ?_
  refine OpsT.done ?_
  refine Qn.then ?_
  obtain ⟨r1, h1, h0⟩ := bindS h0
  refine CodT.meet1 (fun a w => .inr () = r1 ∧ Fr 19 [] a ∧ Inv w0 Z w (star (ownS 47 c_RootEntry 4 A_a0 c_a0 a0) A)) ?_ ?_
  ·
    refine CodT.block ?_
    refine (fun a ha => wp_loopN (fun k a w => ∃ (x1 : Int), slices_IndexFunc_rootEntry__root_put_rootEntry_2_m.l0 a0 a1_c1_v k x1 = some r1 ∧ Fr 19 [(0, .slice A_a0 a0.length c_a0), (1, .func (.func 85) #[] #[.pointer (some ⟨b_a1_c0, 0, none⟩), .pointer (some ⟨b_a1_c1, 0, none⟩)]), (7, .int .i64 (a0.length : Int)), (8, .int .i64 x1)] a ∧ Inv w0 Z w (star (ownS 47 c_RootEntry 4 A_a0 c_a0 a0) A)) ?_ FU a w ⟨0, h1, ha.keep [0, 1, 7, 8] (by kernel_rfl), hI⟩)
    clear h1 hI
    rintro k a w ⟨x1, h1, ha, hI⟩
    rcases k with _ | k
    · cases h1
    simp only [slices_IndexFunc_rootEntry__root_put_rootEntry_2_m.l0] at h1
    refine CodT.of ?_ ha
    refine CodT.seq ?_
    refine CodT.regionL [0] (by kernel_rfl) ?_
    refine OpsT.pures (r := []) [0] [0, 1, 7, 8, 9] (S' := [(0, .slice A_a0 a0.length c_a0), (1, .func (.func 85) #[] #[.pointer (some ⟨b_a1_c0, 0, none⟩), .pointer (some ⟨b_a1_c1, 0, none⟩)]), (7, .int .i64 (a0.length : Int)), (8, .int .i64 x1), (9, .bool (decide (x1 < (a0.length : Int))))]) (by kernel_rfl) ?_
    refine OpsT.done ?_
    refine Qn.then ?_
    refine CodT.seq ?_
    by_cases hb2 : (decide (x1 < (a0.length : Int))) = true
    · rw [if_pos hb2] at h1
      refine CodT.yes' (b := decide (x1 < (a0.length : Int))) (by kernel_rfl) hb2 ?_
      refine CodT.skip ?_
      refine Qn.then ?_
      refine CodT.seq ?_
      refine CodT.block ?_
      refine CodT.seq ?_
      refine CodT.regionL [0, 1] (by kernel_rfl) ?_
      refine OpsT.pures (r := []) [0, 1] [0, 1, 5, 7, 8] (S' := [(0, .slice A_a0 a0.length c_a0), (1, .func (.func 85) #[] #[.pointer (some ⟨b_a1_c0, 0, none⟩), .pointer (some ⟨b_a1_c1, 0, none⟩)]), (5, .int .i64 x1), (7, .int .i64 (a0.length : Int)), (8, .int .i64 x1)]) (by kernel_rfl) ?_
      refine OpsT.done ?_
      refine Qn.then ?_
      refine CodT.seq ?_
      refine CodT.regionL [0, 1, 2, 3, 4, 5] (by kernel_rfl) ?_
      refine OpsT.pures (r := [3, 4, 5]) [0, 1, 2] [0, 1, 5, 7, 8, 11, 12, 13] (S' := [(0, .slice A_a0 a0.length c_a0), (1, .func (.func 85) #[] #[.pointer (some ⟨b_a1_c0, 0, none⟩), .pointer (some ⟨b_a1_c1, 0, none⟩)]), (5, .int .i64 x1), (7, .int .i64 (a0.length : Int)), (8, .int .i64 x1), (11, .func (.func 85) #[] #[.pointer (some ⟨b_a1_c0, 0, none⟩), .pointer (some ⟨b_a1_c1, 0, none⟩)]), (12, .slice A_a0 a0.length c_a0), (13, .int .i64 x1)]) (by kernel_rfl) ?_
      obtain ⟨hg3, h1⟩ := guardS h1
      obtain ⟨g4, hA5, hr6, hl7⟩ := ownS_get hI hg3.1 hg3.2
      refine OpsT.cons (Does.yi (Yl.indexSlice (d := 14) (T := 22) (cc := c_a0) (k := .i64) (j := x1) (g := g4) (o := 0) (by kernel_rfl) Go.Proofs.Try.underlying22 ty47 hA5 hg3.1 hg3.2) hI ?_)
      refine OpsT.cons (Does.yi (Yl.load (d := 15) (T := 47) (v := .agg (c_RootEntry (gt a0 x1)).toArray) (by kernel_rfl) (ldRN ty47 (cs := c_RootEntry (gt a0 x1)) 0 (fun w hC => hr6 w0 w _ hC) hl7 (whole _ _ hl7))) hI ?_)
      obtain ⟨y9, hc8, h1⟩ := bindS h1
      try dsimp only at h1
      refine OpsT.cons (Does.call (d := some 16) (n := 85) (vs := [.agg (c_RootEntry (gt a0 x1)).toArray, .pointer (some ⟨b_a1_c0, 0, none⟩), .pointer (some ⟨b_a1_c1, 0, none⟩)]) (by kernel_rfl) en85 (c85 w0 w _ _ hI (gt a0 x1) b_a1_c0 hz_a1_c0 b_a1_c1 a1_c1_v hz_a1_c1 _ hc8) ?_)
      rintro e w ⟨rfl, hI⟩
      refine ⟨_, rfl, ?_⟩
      refine OpsT.done ?_
      refine Qn.then ?_
      by_cases hb10 : y9 = true
      · rw [if_pos hb10] at h1
        refine CodT.yes' (b := y9) (by kernel_rfl) hb10 ?_
        refine CodT.seq ?_
        refine CodT.regionL [0, 1] (by kernel_rfl) ?_
        refine OpsT.pures (r := []) [0, 1] [4] (S' := [(4, .int .i64 x1)]) (by kernel_rfl) ?_
        refine OpsT.done ?_
        refine Qn.then ?_
        refine CodT.ret ?_
        refine Qn.block_ret ?_
        refine Qn.ret_then ?_
        refine Qn.ret_then ?_
        refine Qn.block_ret ?_
        refine Qn.ret_then ?_
        refine Qn.ret_then ?_
        have e := someS h1
        subst e
        try dsimp only at h0
        have e := someS h0
        subst e
        refine Qn.keep [4] (S' := [(4, .int .i64 x1)]) (by kernel_rfl) ?_
        exact post_ret (v := .int .i64 x1) (fun a ha => RunRes.run (vs := [.int .i64 x1]) (.tmp (t := 4) (by kernel_rfl) .nil) ha (by kernel_rfl)) ⟨rfl, rfl, hI⟩
      · rw [if_neg hb10] at h1
        refine CodT.no' (b := y9) (by kernel_rfl) (by simpa using hb10) ?_
        refine CodT.skip ?_
        refine Qn.block_normal ?_
        refine Qn.then ?_
        refine CodT.regionL [0, 1] (by kernel_rfl) ?_
        refine OpsT.pures (r := []) [0, 1] [0, 1, 7, 8] (S' := [(0, .slice A_a0 a0.length c_a0), (1, .func (.func 85) #[] #[.pointer (some ⟨b_a1_c0, 0, none⟩), .pointer (some ⟨b_a1_c1, 0, none⟩)]), (7, .int .i64 (a0.length : Int)), (8, .int .i64 (wi64 (x1 + 1)))]) (by kernel_rfl) ?_
        refine OpsT.done ?_
        exact Qn.thenJ fun a ha => ⟨k, Nat.lt_succ_self k, wi64 (x1 + 1), h1, ha.keep [0, 1, 7, 8] (by kernel_rfl), hI⟩
    · rw [if_neg hb2] at h1
      refine CodT.no' (b := decide (x1 < (a0.length : Int))) (by kernel_rfl) (by simpa using hb2) ?_
      refine CodT.exit ?_
      refine Qn.exit_then ?_
      refine Qn.exit_then ?_
      refine Qn.block ?_
      have e := someS h1
      subst e
      exact Qn.thenJ fun a ha => ⟨rfl, ha.keep [] (by kernel_rfl), hI⟩
  ·
    rintro a w ⟨rfl, ha, hI⟩
    try dsimp only at h0
    refine Qn.of ?_ ha
    refine Qn.then ?_
    refine CodT.seq ?_
    refine CodT.regionL [0] (by kernel_rfl) ?_
    refine OpsT.pures (r := []) [0] [4] (S' := [(4, .int .i64 (-1))]) (by kernel_rfl) ?_
    refine OpsT.done ?_
    refine Qn.then ?_
    refine CodT.ret ?_
    have e := someS h0
    subst e
    refine Qn.keep [4] (S' := [(4, .int .i64 (-1))]) (by kernel_rfl) ?_
    exact post_ret (v := .int .i64 (-1)) (fun a ha => RunRes.run (vs := [.int .i64 (-1)]) (.tmp (t := 4) (by kernel_rfl) .nil) ha (by kernel_rfl)) ⟨rfl, rfl, hI⟩
set_option maxRecDepth 100000 in
set_option maxHeartbeats 4000000 in
/-- slices.DeleteFunc[[]cenotaph/root.Entry,cenotaph/root.Entry] -/
theorem c61 (w0 w : World) (Z : Hp) (A : HP)  (A_a0 : Option Addr) (c_a0 : Nat) (a0 : (List RootEntry)) (b_a1_c0 : Nat) (hz_a1_c0 : Z b_a1_c0 = some (.cells (([.func (.func 42) #[] #[]] : List Value)).toArray 77 (0, 0))) (b_a1_c1 : Nat) (a1_c1_v : Int) (hz_a1_c1 : Z b_a1_c1 = some (.cells (([.int .i64 a1_c1_v] : List Value)).toArray 3 (0, 0))) (hI : Inv w0 Z w (star (ownS 47 c_RootEntry 4 A_a0 c_a0 a0) A)) (r : (List RootEntry)) (h0 : slices_DeleteFunc_rootEntry__root_put_rootEntry_2 a0 a1_c1_v = some r) :
    Calls prog 61 #[.slice A_a0 a0.length c_a0, .func (.func 85) #[] #[.pointer (some ⟨b_a1_c0, 0, none⟩), .pointer (some ⟨b_a1_c1, 0, none⟩)]] w (fun e w' => ∃ (A1 : Option Addr) (c1 : Nat), e = .returned (.slice A1 r.length c1) ∧ Inv w0 Z w' (star (ownS 47 c_RootEntry 4 A1 c1 r) A)) := by
  have e4 := calls_intro (R := (fun e w' => ∃ (A1 : Option Addr) (c1 : Nat), e = .returned (.slice A1 r.length c1) ∧ Inv w0 Z w' (star (ownS 47 c_RootEntry 4 A1 c1 r) A))) (w := w) (args := [.slice A_a0 a0.length c_a0, .func (.func 85) #[] #[.pointer (some ⟨b_a1_c0, 0, none⟩), .pointer (some ⟨b_a1_c1, 0, none⟩)]]) (fn := Go.Proofs.Try.f61) 42 Go.Proofs.Try.func61 (by rfl) Go.Proofs.Try.ntmps61 (by kernel_rfl)
  refine e4 ?_
  clear e4
  unfold slices_DeleteFunc_rootEntry__root_put_rootEntry_2 at h0
  refine CodT.seq ?_
  refine CodT.regionL [0] (by kernel_rfl) ?_
  refine OpsT.pures (r := []) [0] [0, 1] (S' := [(0, .slice A_a0 a0.length c_a0), (1, .func (.func 85) #[] #[.pointer (some ⟨b_a1_c0, 0, none⟩), .pointer (some ⟨b_a1_c1, 0, none⟩)])]) (by kernel_rfl) ?_
  refine OpsT.done ?_
  refine Qn.then ?_
  refine CodT.seq ?_
  refine CodT.regionL [0, 1, 2, 3] (by kernel_rfl) ?_
  refine OpsT.pures (r := [2, 3]) [0, 1] [0, 1, 8, 9] (S' := [(0, .slice A_a0 a0.length c_a0), (1, .func (.func 85) #[] #[.pointer (some ⟨b_a1_c0, 0, none⟩), .pointer (some ⟨b_a1_c1, 0, none⟩)]), (8, .slice A_a0 a0.length c_a0), (9, .func (.func 85) #[] #[.pointer (some ⟨b_a1_c0, 0, none⟩), .pointer (some ⟨b_a1_c1, 0, none⟩)])]) (by kernel_rfl) ?_
  obtain ⟨⟨y2, y3⟩, hc1, h0⟩ := bindS h0
  try dsimp only at h0
  refine OpsT.cons (Does.call (d := some 10) (n := 65) (vs := [.slice A_a0 a0.length c_a0, .func (.func 85) #[] #[.pointer (some ⟨b_a1_c0, 0, none⟩), .pointer (some ⟨b_a1_c1, 0, none⟩)]]) (by kernel_rfl) en65 (c65_4 w0 w _ _ A_a0 c_a0 a0 b_a1_c0 hz_a1_c0 b_a1_c1 a1_c1_v hz_a1_c1 hI _ hc1) ?_)
  rintro e w ⟨rfl, hm4, hI⟩
  refine ⟨_, rfl, ?_⟩
  refine OpsT.keep [0, 1, 8, 9, 10] (S' := [(0, .slice A_a0 y3.length c_a0), (1, .func (.func 85) #[] #[.pointer (some ⟨b_a1_c0, 0, none⟩), .pointer (some ⟨b_a1_c1, 0, none⟩)]), (8, .slice A_a0 y3.length c_a0), (9, .func (.func 85) #[] #[.pointer (some ⟨b_a1_c0, 0, none⟩), .pointer (some ⟨b_a1_c1, 0, none⟩)]), (10, .int .i64 y2)]) (by simp only [hm4]; kernel_rfl) ?_
  refine OpsT.pures (r := []) [3] [0, 1, 5] (S' := [(0, .slice A_a0 y3.length c_a0), (1, .func (.func 85) #[] #[.pointer (some ⟨b_a1_c0, 0, none⟩), .pointer (some ⟨b_a1_c1, 0, none⟩)]), (5, .int .i64 y2)]) (by kernel_rfl) ?_
  refine OpsT.done ?_
  refine Qn.then ?_
  refine CodT.seq ?_
  refine CodT.seq ?_
  refine CodT.regionL [0, 1] (by kernel_rfl) ?_
  refine OpsT.pures (r := []) [0, 1] [0, 1, 5, 12] (S' := [(0, .slice A_a0 y3.length c_a0), (1, .func (.func 85) #[] #[.pointer (some ⟨b_a1_c0, 0, none⟩), .pointer (some ⟨b_a1_c1, 0, none⟩)]), (5, .int .i64 y2), (12, .bool (y2 == (-1)))]) (by kernel_rfl) ?_
  refine OpsT.done ?_
  refine Qn.then ?_
  by_cases hb5 : (y2 == (-1)) = true
  · rw [if_pos hb5] at h0
    refine CodT.yes' (b := y2 == (-1)) (by kernel_rfl) hb5 ?_
    refine CodT.seq ?_
    refine CodT.regionL [0, 1] (by kernel_rfl) ?_
    refine OpsT.pures (r := []) [0, 1] [4] (S' := [(4, .slice A_a0 y3.length c_a0)]) (by kernel_rfl) ?_
    refine OpsT.done ?_
    refine Qn.then ?_
    refine CodT.ret ?_
    refine Qn.ret_then ?_
    have e := someS h0
    subst e
    refine Qn.keep [4] (S' := [(4, .slice A_a0 y3.length c_a0)]) (by kernel_rfl) ?_
    exact post_ret (v := .slice A_a0 y3.length c_a0) (fun a ha => RunRes.run (vs := [.slice A_a0 y3.length c_a0]) (.tmp (t := 4) (by kernel_rfl) .nil) ha (by kernel_rfl)) ⟨A_a0, c_a0, rfl, hI⟩
  · rw [if_neg hb5] at h0
    refine CodT.no' (b := y2 == (-1)) (by kernel_rfl) (by simpa using hb5) ?_
    refine CodT.skip ?_
    refine Qn.then ?_
    refine CodT.seq ?_
    refine CodT.seq ?_
    refine CodT.regionL [0, 1, 2] (by kernel_rfl) ?_
    refine OpsT.pures (r := []) [0, 1, 2] [0, 1, 5, 6] (S' := [(0, .slice A_a0 y3.length c_a0), (1, .func (.func 85) #[] #[.pointer (some ⟨b_a1_c0, 0, none⟩), .pointer (some ⟨b_a1_c1, 0, none⟩)]), (5, .int .i64 y2), (6, .int .i64 (wi64 (y2 + 1)))]) (by kernel_rfl) ?_
    refine OpsT.done ?_
    refine Qn.then ?_
    obtain ⟨r1, h1, h0⟩ := bindS h0
    refine CodT.meet1 (fun a w => ∃ (x6 : (List RootEntry)) (x10 : Int), (x6, x10) = r1 ∧ Fr 42 [(0, .slice A_a0 x6.length c_a0), (5, .int .i64 x10)] a ∧ Inv w0 Z w (star (ownS 47 c_RootEntry 4 A_a0 c_a0 x6) A)) ?_ ?_
    ·
      refine CodT.block ?_
      refine (fun a ha => wp_loopN (fun k a w => ∃ (x11 : (List RootEntry)) (x15 : Int) (x16 : Int), slices_DeleteFunc_rootEntry__root_put_rootEntry_2.l0 a1_c1_v k x11 x15 x16 = some r1 ∧ Fr 42 [(0, .slice A_a0 x11.length c_a0), (1, .func (.func 85) #[] #[.pointer (some ⟨b_a1_c0, 0, none⟩), .pointer (some ⟨b_a1_c1, 0, none⟩)]), (5, .int .i64 x15), (6, .int .i64 x16)] a ∧ Inv w0 Z w (star (ownS 47 c_RootEntry 4 A_a0 c_a0 x11) A)) ?_ FU a w ⟨y3, y2, wi64 (y2 + 1), h1, ha.keep [0, 1, 5, 6] (by kernel_rfl), hI⟩)
      clear h1 hI
      rintro k a w ⟨x11, x15, x16, h1, ha, hI⟩
      rcases k with _ | k
      · cases h1
      simp only [slices_DeleteFunc_rootEntry__root_put_rootEntry_2.l0] at h1
      refine CodT.of ?_ ha
      refine CodT.seq ?_
      refine CodT.seq ?_
      refine CodT.regionL [0, 1, 2, 3] (by kernel_rfl) ?_
      refine OpsT.pures (r := []) [0, 1, 2, 3] [0, 1, 5, 6, 19] (S' := [(0, .slice A_a0 x11.length c_a0), (1, .func (.func 85) #[] #[.pointer (some ⟨b_a1_c0, 0, none⟩), .pointer (some ⟨b_a1_c1, 0, none⟩)]), (5, .int .i64 x15), (6, .int .i64 x16), (19, .bool (decide (x16 < (x11.length : Int))))]) (by kernel_rfl) ?_
      refine OpsT.done ?_
      refine Qn.then ?_
      by_cases hb17 : (decide (x16 < (x11.length : Int))) = true
      · rw [if_pos hb17] at h1
        refine CodT.yes' (b := decide (x16 < (x11.length : Int))) (by kernel_rfl) hb17 ?_
        refine CodT.skip ?_
        refine Qn.then ?_
        obtain ⟨r2, h2, h1⟩ := bindS h1
        refine CodT.meet (fun a w => ∃ (x18 : (List RootEntry)) (x22 : Int), (x18, x22) = r2 ∧ Fr 42 [(0, .slice A_a0 x18.length c_a0), (1, .func (.func 85) #[] #[.pointer (some ⟨b_a1_c0, 0, none⟩), .pointer (some ⟨b_a1_c1, 0, none⟩)]), (5, .int .i64 x22), (6, .int .i64 x16)] a ∧ Inv w0 Z w (star (ownS 47 c_RootEntry 4 A_a0 c_a0 x18) A)) ?_ ?_
        ·
          refine CodT.block ?_
          refine CodT.seq ?_
          refine CodT.regionL [0, 1, 2, 3, 4, 5] (by kernel_rfl) ?_
          refine OpsT.pures (r := [2, 3, 4, 5]) [0, 1] [0, 1, 5, 6, 22, 23] (S' := [(0, .slice A_a0 x11.length c_a0), (1, .func (.func 85) #[] #[.pointer (some ⟨b_a1_c0, 0, none⟩), .pointer (some ⟨b_a1_c1, 0, none⟩)]), (5, .int .i64 x15), (6, .int .i64 x16), (22, .slice A_a0 x11.length c_a0), (23, .int .i64 x16)]) (by kernel_rfl) ?_
          obtain ⟨hg23, h2⟩ := guardS h2
          obtain ⟨g24, hA25, hr26, hl27⟩ := ownS_get hI hg23.1 hg23.2
          refine OpsT.cons (Does.yi (Yl.indexSlice (d := 24) (T := 22) (cc := c_a0) (k := .i64) (j := x16) (g := g24) (o := 0) (by kernel_rfl) Go.Proofs.Try.underlying22 ty47 hA25 hg23.1 hg23.2) hI ?_)
          refine OpsT.cons (Does.yi (Yl.load (d := 25) (T := 47) (v := .agg (c_RootEntry (gt x11 x16)).toArray) (by kernel_rfl) (ldRN ty47 (cs := c_RootEntry (gt x11 x16)) 0 (fun w hC => hr26 w0 w _ hC) hl27 (whole _ _ hl27))) hI ?_)
          refine OpsT.cons (Does.allocL (d := 7) (T := 47) (c_RootEntry (RootEntry.mk 0 0 0 0)) (by kernel_rfl) ty47 hI (by kernel_rfl) ?_)
          intro b28 w hI
          refine OpsT.cons (Does.storeLit (T := 47) (b := b28) (o := 0) (v := .agg (c_RootEntry (gt x11 x16)).toArray) (l := c_RootEntry (RootEntry.mk 0 0 0 0)) (vs := c_RootEntry (gt x11 x16)) (L' := c_RootEntry (gt x11 x16)) (by kernel_rfl) ty47 hI (by kernel_rfl) (by kernel_rfl) (by kernel_rfl) (by kernel_rfl) (by kernel_rfl) ?_)
          intro w hI
          refine OpsT.done ?_
          refine Qn.then ?_
          refine CodT.seq ?_
          refine CodT.regionL [0, 1, 2, 3] (by kernel_rfl) ?_
          refine OpsT.pures (r := [1, 2, 3]) [0] [0, 1, 5, 6, 7, 26] (S' := [(0, .slice A_a0 x11.length c_a0), (1, .func (.func 85) #[] #[.pointer (some ⟨b_a1_c0, 0, none⟩), .pointer (some ⟨b_a1_c1, 0, none⟩)]), (5, .int .i64 x15), (6, .int .i64 x16), (7, .pointer (some ⟨b28, 0, none⟩)), (26, .func (.func 85) #[] #[.pointer (some ⟨b_a1_c0, 0, none⟩), .pointer (some ⟨b_a1_c1, 0, none⟩)])]) (by kernel_rfl) ?_
          refine OpsT.cons (Does.yi (Yl.load (d := 27) (T := 47) (v := .agg (c_RootEntry (gt x11 x16)).toArray) (by kernel_rfl) (ldBN ty47 (l := c_RootEntry (gt x11 x16)) (o := 0) (cs := c_RootEntry (gt x11 x16)) (ent_refl _) (by kernel_rfl) (whole _ _ (by kernel_rfl)))) hI ?_)
          obtain ⟨y30, hc29, h2⟩ := bindS h2
          try dsimp only at h2
          refine OpsT.cons (Does.call (d := some 28) (n := 85) (vs := [.agg (c_RootEntry (gt x11 x16)).toArray, .pointer (some ⟨b_a1_c0, 0, none⟩), .pointer (some ⟨b_a1_c1, 0, none⟩)]) (by kernel_rfl) en85 (c85 w0 w _ _ hI (gt x11 x16) b_a1_c0 hz_a1_c0 b_a1_c1 a1_c1_v hz_a1_c1 _ hc29) ?_)
          rintro e w ⟨rfl, hI⟩
          refine ⟨_, rfl, ?_⟩
          refine OpsT.pures (r := []) [3] [0, 1, 5, 6, 7, 29] (S' := [(0, .slice A_a0 x11.length c_a0), (1, .func (.func 85) #[] #[.pointer (some ⟨b_a1_c0, 0, none⟩), .pointer (some ⟨b_a1_c1, 0, none⟩)]), (5, .int .i64 x15), (6, .int .i64 x16), (7, .pointer (some ⟨b28, 0, none⟩)), (29, .bool (!y30))]) (by kernel_rfl) ?_
          refine OpsT.done ?_
          refine Qn.then ?_
          by_cases hb31 : (!y30) = true
          · rw [if_pos hb31] at h2
            refine CodT.yes' (b := !y30) (by kernel_rfl) hb31 ?_
            refine CodT.seq ?_
            refine CodT.regionL [0, 1, 2, 3, 4] (by kernel_rfl) ?_
            refine OpsT.pures (r := [2, 3, 4]) [0, 1] [0, 1, 5, 6, 7, 30, 31] (S' := [(0, .slice A_a0 x11.length c_a0), (1, .func (.func 85) #[] #[.pointer (some ⟨b_a1_c0, 0, none⟩), .pointer (some ⟨b_a1_c1, 0, none⟩)]), (5, .int .i64 x15), (6, .int .i64 x16), (7, .pointer (some ⟨b28, 0, none⟩)), (30, .slice A_a0 x11.length c_a0), (31, .int .i64 x15)]) (by kernel_rfl) ?_
            refine OpsT.cons (Does.yi (Yl.load (d := 32) (T := 47) (v := .agg (c_RootEntry (gt x11 x16)).toArray) (by kernel_rfl) (ldBN ty47 (l := c_RootEntry (gt x11 x16)) (o := 0) (cs := c_RootEntry (gt x11 x16)) (ent_refl _) (by kernel_rfl) (whole _ _ (by kernel_rfl)))) hI ?_)
            obtain ⟨hg32, h2⟩ := guardS h2
            obtain ⟨g33, hA34, hr35, hl36⟩ := ownS_get (hI.mono (pick2 _ _ _)) hg32.1 hg32.2
            refine OpsT.cons (Does.yi (Yl.indexSlice (d := 33) (T := 22) (cc := c_a0) (k := .i64) (j := x15) (g := g33) (o := 0) (by kernel_rfl) Go.Proofs.Try.underlying22 ty47 hA34 hg32.1 hg32.2) hI ?_)
            have hI := hI.mono (pick2 _ _ _)
            refine OpsT.cons (Does.storeElem (T := 47) (j := x15) (k := 0) (v := .agg (c_RootEntry (gt x11 x16)).toArray) (vs := c_RootEntry (gt x11 x16)) (gt x11 x16) (by kernel_rfl) ty47 hA34 hI hg32.1 hg32.2 (by kernel_rfl) (by kernel_rfl) (by kernel_rfl) (by kernel_rfl) (by kernel_rfl) ?_)
            intro w hI
            refine OpsT.keep [0, 1, 5, 6, 7, 30, 31, 32] (S' := [(0, .slice A_a0 ((st x11 x15 (gt x11 x16)).length) c_a0), (1, .func (.func 85) #[] #[.pointer (some ⟨b_a1_c0, 0, none⟩), .pointer (some ⟨b_a1_c1, 0, none⟩)]), (5, .int .i64 x15), (6, .int .i64 x16), (7, .pointer (some ⟨b28, 0, none⟩)), (30, .slice A_a0 ((st x11 x15 (gt x11 x16)).length) c_a0), (31, .int .i64 x15), (32, .agg (c_RootEntry (gt x11 x16)).toArray)]) (by simp only [st_length]; kernel_rfl) ?_
            refine OpsT.done ?_
            refine Qn.then ?_
            refine CodT.regionL [0, 1, 2] (by kernel_rfl) ?_
            refine OpsT.pures (r := []) [0, 1, 2] [0, 1, 5, 6] (S' := [(0, .slice A_a0 ((st x11 x15 (gt x11 x16)).length) c_a0), (1, .func (.func 85) #[] #[.pointer (some ⟨b_a1_c0, 0, none⟩), .pointer (some ⟨b_a1_c1, 0, none⟩)]), (5, .int .i64 (wi64 (x15 + 1))), (6, .int .i64 x16)]) (by kernel_rfl) ?_
            refine OpsT.done ?_
            refine Qn.block_normal ?_
            have hI := hI.mono (pick2 _ _ _)
            have hI := hI.drop
            have e := someS h2
            subst e
            exact Qn.thenJ fun a ha => ⟨st x11 x15 (gt x11 x16), wi64 (x15 + 1), rfl, ha.keep [0, 1, 5, 6] (by kernel_rfl), hI⟩
          · rw [if_neg hb31] at h2
            refine CodT.no' (b := !y30) (by kernel_rfl) (by simpa using hb31) ?_
            refine CodT.skip ?_
            refine Qn.block_normal ?_
            have hI := hI.drop
            have e := someS h2
            subst e
            exact Qn.thenJ fun a ha => ⟨x11, x15, rfl, ha.keep [0, 1, 5, 6] (by kernel_rfl), hI⟩
        ·
          rintro a w ⟨x18, x22, rfl, ha, hI⟩
          try dsimp only at h1
          refine CodT.of ?_ ha
          refine CodT.regionL [0, 1, 2] (by kernel_rfl) ?_
          refine OpsT.pures (r := []) [0, 1, 2] [0, 1, 5, 6] (S' := [(0, .slice A_a0 x18.length c_a0), (1, .func (.func 85) #[] #[.pointer (some ⟨b_a1_c0, 0, none⟩), .pointer (some ⟨b_a1_c1, 0, none⟩)]), (5, .int .i64 x22), (6, .int .i64 (wi64 (x16 + 1)))]) (by kernel_rfl) ?_
          refine OpsT.done ?_
          exact Qn.thenJ fun a ha => ⟨k, Nat.lt_succ_self k, x18, x22, wi64 (x16 + 1), h1, ha.keep [0, 1, 5, 6] (by kernel_rfl), hI⟩
      · rw [if_neg hb17] at h1
        refine CodT.no' (b := decide (x16 < (x11.length : Int))) (by kernel_rfl) (by simpa using hb17) ?_
        refine CodT.exit ?_
        refine Qn.exit_then ?_
        refine Qn.exit_then ?_
        refine Qn.block ?_
        have e := someS h1
        subst e
        exact Qn.thenJ fun a ha => ⟨x11, x15, rfl, ha.keep [0, 5] (by kernel_rfl), hI⟩
    ·
      rintro a w ⟨x6, x10, rfl, ha, hI⟩
      try dsimp only at h0
      refine Qn.of ?_ ha
      refine Qn.then ?_
      refine CodT.seq ?_
      refine CodT.regionL [0, 1, 2, 3] (by kernel_rfl) ?_
      refine OpsT.pures (r := [2, 3]) [0, 1] [0, 5, 36, 37] (S' := [(0, .slice A_a0 x6.length c_a0), (5, .int .i64 x10), (36, .slice A_a0 x6.length c_a0), (37, .int .i64 x10)]) (by kernel_rfl) ?_
      obtain ⟨hg37, h0⟩ := guardS h0
      obtain ⟨A39, hA38⟩ : ∃ x, subA A_a0 c_a0 x10 4 = x := ⟨_, rfl⟩
      obtain ⟨m40, hm42⟩ : ∃ x, x = ((x6.length : Int)).toNat - (x10 : Int).toNat := ⟨_, rfl⟩
      refine OpsT.cons (Does.yi (Yl.sub (lo := (some (.int .i64 x10))) (hi := none) (d := 38) (T := 22) (a := x10) (b := (x6.length : Int)) (by kernel_rfl) Go.Proofs.Try.underlying22 ty47 (.inl ⟨_, rfl⟩) (.inr ⟨rfl, rfl⟩) hg37 (ownS_facts hI).1 (m := m40) hm42 hA38 rfl) hI ?_)
      refine OpsT.cons (Does.clearOwn (t := 22) (ty := 0) (c' := c_a0 - (x10 : Int).toNat) (ys := x6) (lo := x10) ((RootEntry.mk 0 0 0 0) : RootEntry) (by kernel_rfl) Go.Proofs.Try.underlying22 ty47 ⟨hg37.1, hg37.2.1⟩ rfl (by kernel_rfl) (by kernel_rfl) ⟨hA38, hm42⟩ hI ?_)
      intro w hI
      refine OpsT.keep [0, 5, 36, 37] (S' := [(0, .slice A_a0 ((clr ((RootEntry.mk 0 0 0 0)) x6 x10).length) c_a0), (5, .int .i64 x10), (36, .slice A_a0 ((clr ((RootEntry.mk 0 0 0 0)) x6 x10).length) c_a0), (37, .int .i64 x10)]) (by simp only [clr_len _ _ ⟨hg37.1, hg37.2.1⟩]; kernel_rfl) ?_
      refine OpsT.done ?_
      refine Qn.then ?_
      refine CodT.seq ?_
      refine CodT.regionL [0, 1, 2, 3] (by kernel_rfl) ?_
      refine OpsT.pures (r := [2, 3]) [0, 1] [39, 40] (S' := [(39, .slice A_a0 ((clr ((RootEntry.mk 0 0 0 0)) x6 x10).length) c_a0), (40, .int .i64 x10)]) (by kernel_rfl) ?_
      obtain ⟨hg43, h0⟩ := guardS h0
      have hA44 := ownS_sub0 hI
      have hl45 := sub_length (clr ((RootEntry.mk 0 0 0 0)) x6 x10) hg43
      refine OpsT.cons (Does.yi (Yl.sub (lo := none) (hi := (some (.int .i64 x10))) (d := 41) (T := 22) (a := 0) (b := x10) (by kernel_rfl) Go.Proofs.Try.underlying22 ty47 (.inr ⟨rfl, rfl⟩) (.inl ⟨_, rfl⟩) hg43 (ownS_facts hI).1 (m := (sub (clr ((RootEntry.mk 0 0 0 0)) x6 x10) 0 x10).length) (sub_length _ hg43) hA44 rfl) hI ?_)
      have hI := ownS_prefix hI hg43
      refine OpsT.pures (r := []) [3] [4] (S' := [(4, .slice A_a0 ((sub (clr ((RootEntry.mk 0 0 0 0)) x6 x10) 0 x10).length) c_a0)]) (by kernel_rfl) ?_
      refine OpsT.done ?_
      refine Qn.then ?_
      refine CodT.ret ?_
      have e := someS h0
      subst e
      refine Qn.keep [4] (S' := [(4, .slice A_a0 ((sub (clr ((RootEntry.mk 0 0 0 0)) x6 x10) 0 x10).length) c_a0)]) (by kernel_rfl) ?_
      exact post_ret (v := .slice A_a0 ((sub (clr ((RootEntry.mk 0 0 0 0)) x6 x10) 0 x10).length) c_a0) (fun a ha => RunRes.run (vs := [.slice A_a0 ((sub (clr ((RootEntry.mk 0 0 0 0)) x6 x10) 0 x10).length) c_a0]) (.tmp (t := 4) (by kernel_rfl) .nil) ha (by kernel_rfl)) ⟨A_a0, c_a0, rfl, hI⟩
end Go.Cen
