/- That the machine computes these: walks, printed by a program of ours. -/
import Derived.Test.YtjbofffabkimeaaPx
import Derived.Test.YtjbofffabkimeaaProg
import Derived.Laws.Externs
set_option linter.unusedVariables false
set_option linter.unusedSimpArgs false
namespace Go.Cen
noncomputable abbrev prog := Go.Proofs.Try.prog
def Tabs [TabC] (Z : Hp) : Prop := RdS Z (cI .u64) 1 (some ⟨0, 0, none⟩) 20 tab0 ∧ tab0.length = 20 ∧ True
theorem Tabs.mono [TabC] {Z Z' : Hp} (h : Tabs Z) (le : Z.le Z') : Tabs Z' := ⟨h.1.mono le, h.2.1, trivial⟩
theorem ty3 : Ty prog 3 false 1 8 (.int .i64 0) := ⟨by kernel_rfl, by kernel_rfl⟩
theorem ty4 : Ty prog 4 false 1 1 (.bool false) := ⟨by kernel_rfl, by kernel_rfl⟩
theorem ty5 : Ty prog 5 false 1 1 (.int .u8 0) := ⟨by kernel_rfl, by kernel_rfl⟩
theorem ty9 : Ty prog 9 false 1 16 (.string ⟨#[]⟩) := ⟨by kernel_rfl, by kernel_rfl⟩
theorem ty22 : Ty prog 22 false 1 8 (.int .i64 0) := ⟨by kernel_rfl, by kernel_rfl⟩
theorem ty24 : Ty prog 24 true 32 32 (.agg (List.replicate 32 (.int .u8 0 : Value)).toArray) := ⟨by kernel_rfl, by kernel_rfl⟩
theorem ty26 : Ty prog 26 true 37 80 (.agg (([.int .i64 0, .int .i64 0, .string ⟨#[]⟩, .int .i64 0, .int .i64 0] : List Value) ++ (List.replicate 32 (.int .u8 0 : Value))).toArray) := ⟨by kernel_rfl, by kernel_rfl⟩
theorem ty37 : Ty prog 37 false 1 24 (.slice none 0 0) := ⟨by kernel_rfl, by kernel_rfl⟩
theorem ty43 : Ty prog 43 false 1 16 (.nilIface) := ⟨by kernel_rfl, by kernel_rfl⟩
theorem ty45 : Ty prog 45 true 8 128 (.agg (List.replicate 8 (.string ⟨#[]⟩ : Value)).toArray) := ⟨by kernel_rfl, by kernel_rfl⟩
theorem ty60 : Ty prog 60 true 32 32 (.agg (List.replicate 32 (.int .u8 0 : Value)).toArray) := ⟨by kernel_rfl, by kernel_rfl⟩
theorem ty62 : Ty prog 62 true 3 32 (.agg (([.int .i64 0, .string ⟨#[]⟩, .bool false] : List Value)).toArray) := ⟨by kernel_rfl, by kernel_rfl⟩
theorem ty73 : Ty prog 73 true 3 40 (.agg (([.string ⟨#[]⟩, .string ⟨#[]⟩, .bool false] : List Value)).toArray) := ⟨by kernel_rfl, by kernel_rfl⟩
theorem ty96 : Ty prog 96 true 24 24 (.agg (List.replicate 24 (.int .u8 0 : Value)).toArray) := ⟨by kernel_rfl, by kernel_rfl⟩
theorem ty97 : Ty prog 97 false 1 8 (.int .u64 0) := ⟨by kernel_rfl, by kernel_rfl⟩
theorem ty111 : Ty prog 111 false 1 8 (.pointer none) := ⟨by kernel_rfl, by kernel_rfl⟩
theorem ty113 : Ty prog 113 true 2 32 (.agg (([.pointer none, .slice none 0 0] : List Value)).toArray) := ⟨by kernel_rfl, by kernel_rfl⟩
theorem en4 : ∀ (args : Array Value) (w : World), (callFunc 4 args).run prog w = .ok (.enter 4 args) w := fun _ _ => by kernel_rfl
theorem en5 : ∀ (args : Array Value) (w : World), (callFunc 5 args).run prog w = .ok (.enter 5 args) w := fun _ _ => by kernel_rfl
theorem en6 : ∀ (args : Array Value) (w : World), (callFunc 6 args).run prog w = .ok (.enter 6 args) w := fun _ _ => by kernel_rfl
theorem en7 : ∀ (args : Array Value) (w : World), (callFunc 7 args).run prog w = .ok (.enter 7 args) w := fun _ _ => by kernel_rfl
theorem en8 : ∀ (args : Array Value) (w : World), (callFunc 8 args).run prog w = .ok (.enter 8 args) w := fun _ _ => by kernel_rfl
theorem en9 : ∀ (args : Array Value) (w : World), (callFunc 9 args).run prog w = .ok (.enter 9 args) w := fun _ _ => by kernel_rfl
theorem en10 : ∀ (args : Array Value) (w : World), (callFunc 10 args).run prog w = .ok (.enter 10 args) w := fun _ _ => by kernel_rfl
theorem en11 : ∀ (args : Array Value) (w : World), (callFunc 11 args).run prog w = .ok (.enter 11 args) w := fun _ _ => by kernel_rfl
theorem en12 : ∀ (args : Array Value) (w : World), (callFunc 12 args).run prog w = .ok (.enter 12 args) w := fun _ _ => by kernel_rfl
theorem en13 : ∀ (args : Array Value) (w : World), (callFunc 13 args).run prog w = .ok (.enter 13 args) w := fun _ _ => by kernel_rfl
theorem en14 : ∀ (args : Array Value) (w : World), (callFunc 14 args).run prog w = .ok (.enter 14 args) w := fun _ _ => by kernel_rfl
theorem en15 : ∀ (args : Array Value) (w : World), (callFunc 15 args).run prog w = .ok (.enter 15 args) w := fun _ _ => by kernel_rfl
theorem en16 : ∀ (args : Array Value) (w : World), (callFunc 16 args).run prog w = .ok (.enter 16 args) w := fun _ _ => by kernel_rfl
theorem en17 : ∀ (args : Array Value) (w : World), (callFunc 17 args).run prog w = .ok (.enter 17 args) w := fun _ _ => by kernel_rfl
theorem en18 : ∀ (args : Array Value) (w : World), (callFunc 18 args).run prog w = .ok (.enter 18 args) w := fun _ _ => by kernel_rfl
theorem en19 : ∀ (args : Array Value) (w : World), (callFunc 19 args).run prog w = .ok (.enter 19 args) w := fun _ _ => by kernel_rfl
theorem en20 : ∀ (args : Array Value) (w : World), (callFunc 20 args).run prog w = .ok (.enter 20 args) w := fun _ _ => by kernel_rfl
theorem en21 : ∀ (args : Array Value) (w : World), (callFunc 21 args).run prog w = .ok (.enter 21 args) w := fun _ _ => by kernel_rfl
theorem en22 : ∀ (args : Array Value) (w : World), (callFunc 22 args).run prog w = .ok (.enter 22 args) w := fun _ _ => by kernel_rfl
theorem en23 : ∀ (args : Array Value) (w : World), (callFunc 23 args).run prog w = .ok (.enter 23 args) w := fun _ _ => by kernel_rfl
theorem en24 : ∀ (args : Array Value) (w : World), (callFunc 24 args).run prog w = .ok (.enter 24 args) w := fun _ _ => by kernel_rfl
theorem en25 : ∀ (args : Array Value) (w : World), (callFunc 25 args).run prog w = .ok (.enter 25 args) w := fun _ _ => by kernel_rfl
theorem en26 : ∀ (args : Array Value) (w : World), (callFunc 26 args).run prog w = .ok (.enter 26 args) w := fun _ _ => by kernel_rfl
theorem en27 : ∀ (args : Array Value) (w : World), (callFunc 27 args).run prog w = .ok (.enter 27 args) w := fun _ _ => by kernel_rfl
theorem en28 : ∀ (args : Array Value) (w : World), (callFunc 28 args).run prog w = .ok (.enter 28 args) w := fun _ _ => by kernel_rfl
theorem en46 : ∀ (args : Array Value) (w : World), (callFunc 46 args).run prog w = .ok (.enter 46 args) w := fun _ _ => by kernel_rfl
theorem en47 : ∀ (args : Array Value) (w : World), (callFunc 47 args).run prog w = .ok (.enter 47 args) w := fun _ _ => by kernel_rfl
theorem en48 : ∀ (args : Array Value) (w : World), (callFunc 48 args).run prog w = .ok (.enter 48 args) w := fun _ _ => by kernel_rfl
theorem en49 : ∀ (args : Array Value) (w : World), (callFunc 49 args).run prog w = .ok (.enter 49 args) w := fun _ _ => by kernel_rfl
theorem en50 : ∀ (args : Array Value) (w : World), (callFunc 50 args).run prog w = .ok (.enter 50 args) w := fun _ _ => by kernel_rfl
theorem en51 : ∀ (args : Array Value) (w : World), (callFunc 51 args).run prog w = .ok (.enter 51 args) w := fun _ _ => by kernel_rfl
theorem en53 : ∀ (args : Array Value) (w : World), (callFunc 53 args).run prog w = .ok (.enter 53 args) w := fun _ _ => by kernel_rfl
theorem en54 : ∀ (args : Array Value) (w : World), (callFunc 54 args).run prog w = .ok (.enter 54 args) w := fun _ _ => by kernel_rfl
theorem en55 : ∀ (args : Array Value) (w : World), (callFunc 55 args).run prog w = .ok (.enter 55 args) w := fun _ _ => by kernel_rfl
theorem en62 : ∀ (args : Array Value) (w : World), (callFunc 62 args).run prog w = .ok (.enter 62 args) w := fun _ _ => by kernel_rfl
theorem en63 : ∀ (args : Array Value) (w : World), (callFunc 63 args).run prog w = .ok (.enter 63 args) w := fun _ _ => by kernel_rfl
theorem en64 : ∀ (args : Array Value) (w : World), (callFunc 64 args).run prog w = .ok (.enter 64 args) w := fun _ _ => by kernel_rfl
theorem en65 : ∀ (args : Array Value) (w : World), (callFunc 65 args).run prog w = .ok (.enter 65 args) w := fun _ _ => by kernel_rfl
theorem en66 : ∀ (args : Array Value) (w : World), (callFunc 66 args).run prog w = .ok (.enter 66 args) w := fun _ _ => by kernel_rfl
theorem en67 : ∀ (args : Array Value) (w : World), (callFunc 67 args).run prog w = .ok (.enter 67 args) w := fun _ _ => by kernel_rfl
theorem en68 : ∀ (args : Array Value) (w : World), (callFunc 68 args).run prog w = .ok (.enter 68 args) w := fun _ _ => by kernel_rfl
theorem en69 : ∀ (args : Array Value) (w : World), (callFunc 69 args).run prog w = .ok (.enter 69 args) w := fun _ _ => by kernel_rfl
theorem en70 : ∀ (args : Array Value) (w : World), (callFunc 70 args).run prog w = .ok (.enter 70 args) w := fun _ _ => by kernel_rfl
theorem en73 : ∀ (args : Array Value) (w : World), (callFunc 73 args).run prog w = .ok (.enter 73 args) w := fun _ _ => by kernel_rfl
theorem en77 : ∀ (args : Array Value) (w : World), (callFunc 77 args).run prog w = .ok (.enter 77 args) w := fun _ _ => by kernel_rfl
theorem en78 : ∀ (args : Array Value) (w : World), (callFunc 78 args).run prog w = .ok (.enter 78 args) w := fun _ _ => by kernel_rfl
theorem ext72 (v : Value) (w : World) : (callFunc 72 #[v]).run prog w = .ok (.value v) w := by kernel_rfl

theorem inf9 : ∃ i, prog.info? 9 = some i ∧ i.comparable = true := inf_of (by kernel_rfl)
theorem inf53 : ∃ i, prog.info? 53 = some i ∧ i.comparable = true := inf_of (by kernel_rfl)
theorem inf54 : ∃ i, prog.info? 54 = some i ∧ i.comparable = true := inf_of (by kernel_rfl)
theorem kt20 : KeyT prog 20 dynV20 := by
  refine KeyT.asking Go.Proofs.Try.underlying20 (fun e k w => ?_) (fun k => ?_) (fun a b => by cases a <;> cases b <;> rfl) (fun a b w => ?_)
  · cases k with
    | nil => exact chk_nil Go.Proofs.Try.underlying20 e _ w
    | i9 x => exact chk_if Go.Proofs.Try.underlying20 inf9 e _ _ w (chk_str Go.Proofs.Try.underlying9 e _ x w)
    | i53 x => exact chk_if Go.Proofs.Try.underlying20 inf53 e _ _ w (chk_int Go.Proofs.Try.underlying53 e _ x w)
    | i54 x => exact chk_if Go.Proofs.Try.underlying20 inf54 e _ _ w (chk_str Go.Proofs.Try.underlying54 e _ x w)
  · cases k with
    | nil => rfl
    | i9 x => exact same_str x _ _
    | i53 x => exact same_int x _ _
    | i54 x => exact same_str x _ _
  · cases a with
    | nil => cases b with
      | nil => exact eq_nn Go.Proofs.Try.underlying20 w
      | i9 y => exact eq_ni Go.Proofs.Try.underlying20 w
      | i53 y => exact eq_ni Go.Proofs.Try.underlying20 w
      | i54 y => exact eq_ni Go.Proofs.Try.underlying20 w
    | i9 x => cases b with
      | nil => exact eq_in Go.Proofs.Try.underlying20 w
      | i9 y => rw [show dynV20 (.i9 x) = Value.iface 9 (.string x) from rfl, show dynV20 (.i9 y) = Value.iface 9 (.string y) from rfl, eq_ss Go.Proofs.Try.underlying20 inf9 Go.Proofs.Try.underlying9 w]; exact congrArg (fun q => Result.ok q w) (decide_eq_decide.2 (by simp))
      | i53 y => exact eq_ne Go.Proofs.Try.underlying20 (by decide) w
      | i54 y => exact eq_ne Go.Proofs.Try.underlying20 (by decide) w
    | i53 x => cases b with
      | nil => exact eq_in Go.Proofs.Try.underlying20 w
      | i9 y => exact eq_ne Go.Proofs.Try.underlying20 (by decide) w
      | i53 y => rw [show dynV20 (.i53 x) = Value.iface 53 (.int .i64 x) from rfl, show dynV20 (.i53 y) = Value.iface 53 (.int .i64 y) from rfl, eq_ii Go.Proofs.Try.underlying20 inf53 Go.Proofs.Try.underlying53 w]; exact congrArg (fun q => Result.ok q w) (decide_eq_decide.2 (by simp))
      | i54 y => exact eq_ne Go.Proofs.Try.underlying20 (by decide) w
    | i54 x => cases b with
      | nil => exact eq_in Go.Proofs.Try.underlying20 w
      | i9 y => exact eq_ne Go.Proofs.Try.underlying20 (by decide) w
      | i53 y => exact eq_ne Go.Proofs.Try.underlying20 (by decide) w
      | i54 y => rw [show dynV20 (.i54 x) = Value.iface 54 (.string x) from rfl, show dynV20 (.i54 y) = Value.iface 54 (.string y) from rfl, eq_ss Go.Proofs.Try.underlying20 inf54 Go.Proofs.Try.underlying54 w]; exact congrArg (fun q => Result.ok q w) (decide_eq_decide.2 (by simp))
variable [TabC]
set_option maxRecDepth 100000 in
set_option maxHeartbeats 4000000 in
/-- cenotaph/event.parts -/
theorem c11 (w0 w : World) (Z : Hp) (A : HP) (hI : Inv w0 Z w A) (hT : Tabs Z) (a0 : ApiEvent) (hl1 : a0.Sum.length = 32) (r : (List Dyn43)) (h0 : event_parts a0 = some r) :
    Calls prog 11 #[.agg (c_ApiEvent a0).toArray] w (fun e w' => ∃ (A1 : Option Addr) (c1 : Nat), e = .returned (.slice A1 r.length c1) ∧ Inv w0 Z w' (star (ownS 43 cD43 1 A1 c1 r) A)) := by
  have e4 := calls_intro (R := (fun e w' => ∃ (A1 : Option Addr) (c1 : Nat), e = .returned (.slice A1 r.length c1) ∧ Inv w0 Z w' (star (ownS 43 cD43 1 A1 c1 r) A))) (w := w) (args := [.agg (c_ApiEvent a0).toArray]) (fn := Go.Proofs.Try.f11) 59 Go.Proofs.Try.func11 (by rfl) Go.Proofs.Try.ntmps11 (by kernel_rfl)
  refine e4 ?_
  clear e4
  unfold event_parts at h0
  refine CodT.seq ?_
  refine CodT.regionL [0, 1] (by kernel_rfl) ?_
  refine OpsT.cons (Does.boxL (d := 1) (T := 26) (v := .agg (c_ApiEvent a0).toArray) (c_ApiEvent a0) (by kernel_rfl) hI (by kernel_rfl) ?_)
  intro b2 w hI
  refine OpsT.pures (r := []) [1] [1] (S' := [(1, .pointer (some ⟨b2, 0, none⟩))]) (by kernel_rfl) ?_
  refine OpsT.done ?_
  refine Qn.then ?_
  refine CodT.seq ?_
  refine CodT.regionL [0, 1, 2] (by kernel_rfl) ?_
  refine OpsT.pures (r := [1, 2]) [0] [1, 4] (S' := [(1, .pointer (some ⟨b2, 0, none⟩)), (4, .pointer (some ⟨b2, 1, none⟩))]) (by kernel_rfl) ?_
  refine OpsT.cons (Does.yi (Yl.load (d := 5) (T := 3) (v := .int .i64 a0.ID) (by kernel_rfl) (ldB ty3 (l := c_ApiEvent a0) (o := 1) (v := .int .i64 a0.ID) (ent_refl _) (by kernel_rfl))) hI ?_)
  refine OpsT.pures (r := []) [2] [1, 3] (S' := [(1, .pointer (some ⟨b2, 0, none⟩)), (3, .int .i64 a0.ID)]) (by kernel_rfl) ?_
  refine OpsT.done ?_
  refine Qn.then ?_
  refine CodT.seq ?_
  refine CodT.seq ?_
  refine CodT.regionL [0, 1] (by kernel_rfl) ?_
  refine OpsT.pures (r := [1]) [0] [1, 3, 6] (S' := [(1, .pointer (some ⟨b2, 0, none⟩)), (3, .int .i64 a0.ID), (6, .pointer (some ⟨b2, 0, none⟩))]) (by kernel_rfl) ?_
  refine OpsT.cons (Does.yi (Yl.load (d := 7) (T := 22) (v := .int .i64 a0.Kind) (by kernel_rfl) (ldB ty22 (l := c_ApiEvent a0) (o := 0) (v := .int .i64 a0.Kind) (ent_refl _) (by kernel_rfl))) hI ?_)
  refine OpsT.done ?_
  refine Qn.then ?_
  refine CodT.block ?_
  obtain ⟨r1, h1, h0⟩ := bindS h0
  refine CodT.meet (fun a w => ∃ (x3 : Bool), x3 = r1 ∧ Fr 59 [(1, .pointer (some ⟨b2, 0, none⟩)), (3, .int .i64 a0.ID), (7, .int .i64 a0.Kind), (8, .bool x3)] a ∧ Inv w0 Z w (star (pt b2 (.cells (c_ApiEvent a0).toArray 26 (0, 0))) A)) ?_ ?_
  ·
    refine CodT.seq ?_
    refine CodT.regionL [0, 1] (by kernel_rfl) ?_
    refine OpsT.pures (r := []) [0, 1] [1, 3, 7, 8] (S' := [(1, .pointer (some ⟨b2, 0, none⟩)), (3, .int .i64 a0.ID), (7, .int .i64 a0.Kind), (8, .bool (a0.Kind == 0))]) (by kernel_rfl) ?_
    refine OpsT.done ?_
    refine Qn.then ?_
    by_cases hb4 : (a0.Kind == 0) = true
    · rw [if_pos hb4] at h1
      refine CodT.yes' (b := a0.Kind == 0) (by kernel_rfl) hb4 ?_
      refine CodT.skip ?_
      have e := someS h1
      subst e
      exact Qn.thenJ fun a ha => ⟨a0.Kind == 0, rfl, ha.keep [1, 3, 7, 8] (by kernel_rfl), hI⟩
    · rw [if_neg hb4] at h1
      refine CodT.no' (b := a0.Kind == 0) (by kernel_rfl) (by simpa using hb4) ?_
      refine CodT.seq ?_
      refine CodT.regionL [0, 1] (by kernel_rfl) ?_
      refine OpsT.pures (r := []) [0, 1] [1, 3, 7, 8] (S' := [(1, .pointer (some ⟨b2, 0, none⟩)), (3, .int .i64 a0.ID), (7, .int .i64 a0.Kind), (8, .bool (a0.Kind == 4))]) (by kernel_rfl) ?_
      refine OpsT.done ?_
      refine Qn.then ?_
      by_cases hb5 : (a0.Kind == 4) = true
      · rw [if_pos hb5] at h1
        refine CodT.yes' (b := a0.Kind == 4) (by kernel_rfl) hb5 ?_
        refine CodT.skip ?_
        have e := someS h1
        subst e
        exact Qn.thenJ fun a ha => ⟨a0.Kind == 4, rfl, ha.keep [1, 3, 7, 8] (by kernel_rfl), hI⟩
      · rw [if_neg hb5] at h1
        refine CodT.no' (b := a0.Kind == 4) (by kernel_rfl) (by simpa using hb5) ?_
        refine CodT.regionL [0, 1] (by kernel_rfl) ?_
        refine OpsT.pures (r := []) [0, 1] [1, 3, 7, 8] (S' := [(1, .pointer (some ⟨b2, 0, none⟩)), (3, .int .i64 a0.ID), (7, .int .i64 a0.Kind), (8, .bool (a0.Kind == 5))]) (by kernel_rfl) ?_
        refine OpsT.done ?_
        have e := someS h1
        subst e
        exact Qn.thenJ fun a ha => ⟨a0.Kind == 5, rfl, ha.keep [1, 3, 7, 8] (by kernel_rfl), hI⟩
  ·
    rintro a w ⟨x3, rfl, ha, hI⟩
    try dsimp only at h0
    refine CodT.of ?_ ha
    by_cases hb6 : x3 = true
    · rw [if_pos hb6] at h0
      refine CodT.yes' (b := x3) (by kernel_rfl) hb6 ?_
      refine CodT.seq ?_
      refine CodT.regionL [0, 1, 2, 3, 4, 5, 6] (by kernel_rfl) ?_
      refine OpsT.pures (r := [3, 4, 5, 6]) [0, 1, 2] [13, 14] (S' := [(13, .iface 53 (.int .i64 a0.ID)), (14, .pointer (some ⟨b2, 2, none⟩))]) (by kernel_rfl) ?_
      refine OpsT.cons (Does.yi (Yl.load (d := 15) (T := 9) (v := .string a0.Name) (by kernel_rfl) (ldB ty9 (l := c_ApiEvent a0) (o := 2) (v := .string a0.Name) (ent_refl _) (by kernel_rfl))) hI ?_)
      refine OpsT.pures (r := [5, 6]) [4] [13, 16] (S' := [(13, .iface 53 (.int .i64 a0.ID)), (16, .iface 54 (.string a0.Name))]) (by kernel_rfl) ?_
      refine OpsT.cons (Does.buildSlice (en := cD43) (d := 17) (n := 2) (T := 40) (ps := [(0, .iface 53 (.int .i64 a0.ID)), (1, .iface 54 (.string a0.Name))]) ([(Dyn43.i53 a0.ID), (Dyn43.i54 a0.Name)] : List Dyn43) (by kernel_rfl) Go.Proofs.Try.underlying40 ty43 (by kernel_rfl) (by kernel_rfl) (by kernel_rfl) (by kernel_rfl) (len_all (fun _ => rfl)) hI ?_)
      intro b7 w hI
      refine OpsT.pures (r := []) [6] [2] (S' := [(2, .slice (some ⟨b7, 0, none⟩) (([(Dyn43.i53 a0.ID), (Dyn43.i54 a0.Name)] : List Dyn43).length) 2)]) (by kernel_rfl) ?_
      refine OpsT.done ?_
      refine Qn.then ?_
      refine CodT.ret ?_
      refine Qn.block_ret ?_
      refine Qn.ret_then ?_
      have hI := hI.mono (pick2 _ _ _)
      have hI := hI.drop
      have e := someS h0
      subst e
      refine Qn.keep [2] (S' := [(2, .slice (some ⟨b7, 0, none⟩) (([(Dyn43.i53 a0.ID), (Dyn43.i54 a0.Name)] : List Dyn43).length) 2)]) (by kernel_rfl) ?_
      exact post_ret (v := .slice (some ⟨b7, 0, none⟩) (([(Dyn43.i53 a0.ID), (Dyn43.i54 a0.Name)] : List Dyn43).length) 2) (fun a ha => RunRes.run (vs := [.slice (some ⟨b7, 0, none⟩) (([(Dyn43.i53 a0.ID), (Dyn43.i54 a0.Name)] : List Dyn43).length) 2]) (.tmp (t := 2) (by kernel_rfl) .nil) ha (by kernel_rfl)) ⟨(some ⟨b7, 0, none⟩), 2, rfl, hI⟩
    · rw [if_neg hb6] at h0
      refine CodT.no' (b := x3) (by kernel_rfl) (by simpa using hb6) ?_
      refine CodT.seq ?_
      refine CodT.regionL [0, 1] (by kernel_rfl) ?_
      refine OpsT.pures (r := []) [0, 1] [1, 3, 7, 18] (S' := [(1, .pointer (some ⟨b2, 0, none⟩)), (3, .int .i64 a0.ID), (7, .int .i64 a0.Kind), (18, .bool (a0.Kind == 1))]) (by kernel_rfl) ?_
      refine OpsT.done ?_
      refine Qn.then ?_
      by_cases hb8 : (a0.Kind == 1) = true
      · rw [if_pos hb8] at h0
        refine CodT.yes' (b := a0.Kind == 1) (by kernel_rfl) hb8 ?_
        refine CodT.seq ?_
        refine CodT.regionL [0, 1, 2, 3, 4, 5, 6] (by kernel_rfl) ?_
        refine OpsT.pures (r := [3, 4, 5, 6]) [0, 1, 2] [21, 22] (S' := [(21, .iface 53 (.int .i64 a0.ID)), (22, .pointer (some ⟨b2, 4, none⟩))]) (by kernel_rfl) ?_
        refine OpsT.cons (Does.yi (Yl.load (d := 23) (T := 3) (v := .int .i64 a0.Len) (by kernel_rfl) (ldB ty3 (l := c_ApiEvent a0) (o := 4) (v := .int .i64 a0.Len) (ent_refl _) (by kernel_rfl))) hI ?_)
        refine OpsT.pures (r := [5, 6]) [4] [21, 24] (S' := [(21, .iface 53 (.int .i64 a0.ID)), (24, .iface 53 (.int .i64 a0.Len))]) (by kernel_rfl) ?_
        refine OpsT.cons (Does.buildSlice (en := cD43) (d := 25) (n := 2) (T := 40) (ps := [(0, .iface 53 (.int .i64 a0.ID)), (1, .iface 53 (.int .i64 a0.Len))]) ([(Dyn43.i53 a0.ID), (Dyn43.i53 a0.Len)] : List Dyn43) (by kernel_rfl) Go.Proofs.Try.underlying40 ty43 (by kernel_rfl) (by kernel_rfl) (by kernel_rfl) (by kernel_rfl) (len_all (fun _ => rfl)) hI ?_)
        intro b9 w hI
        refine OpsT.pures (r := []) [6] [2] (S' := [(2, .slice (some ⟨b9, 0, none⟩) (([(Dyn43.i53 a0.ID), (Dyn43.i53 a0.Len)] : List Dyn43).length) 2)]) (by kernel_rfl) ?_
        refine OpsT.done ?_
        refine Qn.then ?_
        refine CodT.ret ?_
        refine Qn.block_ret ?_
        refine Qn.ret_then ?_
        have hI := hI.mono (pick2 _ _ _)
        have hI := hI.drop
        have e := someS h0
        subst e
        refine Qn.keep [2] (S' := [(2, .slice (some ⟨b9, 0, none⟩) (([(Dyn43.i53 a0.ID), (Dyn43.i53 a0.Len)] : List Dyn43).length) 2)]) (by kernel_rfl) ?_
        exact post_ret (v := .slice (some ⟨b9, 0, none⟩) (([(Dyn43.i53 a0.ID), (Dyn43.i53 a0.Len)] : List Dyn43).length) 2) (fun a ha => RunRes.run (vs := [.slice (some ⟨b9, 0, none⟩) (([(Dyn43.i53 a0.ID), (Dyn43.i53 a0.Len)] : List Dyn43).length) 2]) (.tmp (t := 2) (by kernel_rfl) .nil) ha (by kernel_rfl)) ⟨(some ⟨b9, 0, none⟩), 2, rfl, hI⟩
      · rw [if_neg hb8] at h0
        refine CodT.no' (b := a0.Kind == 1) (by kernel_rfl) (by simpa using hb8) ?_
        refine CodT.seq ?_
        refine CodT.regionL [0, 1] (by kernel_rfl) ?_
        refine OpsT.pures (r := []) [0, 1] [1, 3, 7, 26] (S' := [(1, .pointer (some ⟨b2, 0, none⟩)), (3, .int .i64 a0.ID), (7, .int .i64 a0.Kind), (26, .bool (a0.Kind == 2))]) (by kernel_rfl) ?_
        refine OpsT.done ?_
        refine Qn.then ?_
        by_cases hb10 : (a0.Kind == 2) = true
        · rw [if_pos hb10] at h0
          refine CodT.yes' (b := a0.Kind == 2) (by kernel_rfl) hb10 ?_
          refine CodT.seq ?_
          refine CodT.regionL [0, 1, 2, 3, 4, 5, 6, 7, 8, 9, 10, 11, 12] (by kernel_rfl) ?_
          refine OpsT.pures (r := [3, 4, 5, 6, 7, 8, 9, 10, 11, 12]) [0, 1, 2] [1, 29, 30] (S' := [(1, .pointer (some ⟨b2, 0, none⟩)), (29, .iface 53 (.int .i64 a0.ID)), (30, .pointer (some ⟨b2, 3, none⟩))]) (by kernel_rfl) ?_
          refine OpsT.cons (Does.yi (Yl.load (d := 31) (T := 3) (v := .int .i64 a0.Time) (by kernel_rfl) (ldB ty3 (l := c_ApiEvent a0) (o := 3) (v := .int .i64 a0.Time) (ent_refl _) (by kernel_rfl))) hI ?_)
          refine OpsT.pures (r := [6, 7, 8, 9, 10, 11, 12]) [4, 5] [1, 29, 32, 33] (S' := [(1, .pointer (some ⟨b2, 0, none⟩)), (29, .iface 53 (.int .i64 a0.ID)), (32, .iface 53 (.int .i64 a0.Time)), (33, .pointer (some ⟨b2, 4, none⟩))]) (by kernel_rfl) ?_
          refine OpsT.cons (Does.yi (Yl.load (d := 34) (T := 3) (v := .int .i64 a0.Len) (by kernel_rfl) (ldB ty3 (l := c_ApiEvent a0) (o := 4) (v := .int .i64 a0.Len) (ent_refl _) (by kernel_rfl))) hI ?_)
          refine OpsT.pures (r := [9, 10, 11, 12]) [7, 8] [29, 32, 35, 36] (S' := [(29, .iface 53 (.int .i64 a0.ID)), (32, .iface 53 (.int .i64 a0.Time)), (35, .iface 53 (.int .i64 a0.Len)), (36, .pointer (some ⟨b2, 5, none⟩))]) (by kernel_rfl) ?_
          refine OpsT.cons (Does.yi (Yl.load (d := 37) (T := 24) (v := .agg (cA (Value.int .u8) a0.Sum).toArray) (by kernel_rfl) (ldBN ty24 (l := c_ApiEvent a0) (o := 5) (cs := cA (Value.int .u8) a0.Sum) (ent_refl _) ((cA_length _ _).trans hl1) (tail_take _ _ _ _ _ (by kernel_rfl) hl1))) hI ?_)
          refine OpsT.pures (r := [11, 12]) [10] [29, 32, 35, 38] (S' := [(29, .iface 53 (.int .i64 a0.ID)), (32, .iface 53 (.int .i64 a0.Time)), (35, .iface 53 (.int .i64 a0.Len)), (38, .iface 60 (.agg (cA (Value.int .u8) a0.Sum).toArray))]) (by kernel_rfl) ?_
          refine OpsT.cons (Does.buildSlice (en := cD43) (d := 39) (n := 4) (T := 40) (ps := [(0, .iface 53 (.int .i64 a0.ID)), (1, .iface 53 (.int .i64 a0.Time)), (2, .iface 53 (.int .i64 a0.Len)), (3, .iface 60 (.agg (cA (Value.int .u8) a0.Sum).toArray))]) ([(Dyn43.i53 a0.ID), (Dyn43.i53 a0.Time), (Dyn43.i53 a0.Len), (Dyn43.i60 a0.Sum)] : List Dyn43) (by kernel_rfl) Go.Proofs.Try.underlying40 ty43 (by kernel_rfl) (by kernel_rfl) (by kernel_rfl) (by kernel_rfl) (len_all (fun _ => rfl)) hI ?_)
          intro b11 w hI
          refine OpsT.pures (r := []) [12] [2] (S' := [(2, .slice (some ⟨b11, 0, none⟩) (([(Dyn43.i53 a0.ID), (Dyn43.i53 a0.Time), (Dyn43.i53 a0.Len), (Dyn43.i60 a0.Sum)] : List Dyn43).length) 4)]) (by kernel_rfl) ?_
          refine OpsT.done ?_
          refine Qn.then ?_
          refine CodT.ret ?_
          refine Qn.block_ret ?_
          refine Qn.ret_then ?_
          have hI := hI.mono (pick2 _ _ _)
          have hI := hI.drop
          have e := someS h0
          subst e
          refine Qn.keep [2] (S' := [(2, .slice (some ⟨b11, 0, none⟩) (([(Dyn43.i53 a0.ID), (Dyn43.i53 a0.Time), (Dyn43.i53 a0.Len), (Dyn43.i60 a0.Sum)] : List Dyn43).length) 4)]) (by kernel_rfl) ?_
          exact post_ret (v := .slice (some ⟨b11, 0, none⟩) (([(Dyn43.i53 a0.ID), (Dyn43.i53 a0.Time), (Dyn43.i53 a0.Len), (Dyn43.i60 a0.Sum)] : List Dyn43).length) 4) (fun a ha => RunRes.run (vs := [.slice (some ⟨b11, 0, none⟩) (([(Dyn43.i53 a0.ID), (Dyn43.i53 a0.Time), (Dyn43.i53 a0.Len), (Dyn43.i60 a0.Sum)] : List Dyn43).length) 4]) (.tmp (t := 2) (by kernel_rfl) .nil) ha (by kernel_rfl)) ⟨(some ⟨b11, 0, none⟩), 4, rfl, hI⟩
        · rw [if_neg hb10] at h0
          refine CodT.no' (b := a0.Kind == 2) (by kernel_rfl) (by simpa using hb10) ?_
          refine CodT.seq ?_
          refine CodT.regionL [0, 1] (by kernel_rfl) ?_
          refine OpsT.pures (r := []) [0, 1] [1, 3, 7, 40] (S' := [(1, .pointer (some ⟨b2, 0, none⟩)), (3, .int .i64 a0.ID), (7, .int .i64 a0.Kind), (40, .bool (a0.Kind == 3))]) (by kernel_rfl) ?_
          refine OpsT.done ?_
          refine Qn.then ?_
          by_cases hb12 : (a0.Kind == 3) = true
          · rw [if_pos hb12] at h0
            refine CodT.yes' (b := a0.Kind == 3) (by kernel_rfl) hb12 ?_
            refine CodT.seq ?_
            refine CodT.regionL [0, 1, 2, 3, 4, 5, 6] (by kernel_rfl) ?_
            refine OpsT.pures (r := [3, 4, 5, 6]) [0, 1, 2] [43, 44] (S' := [(43, .iface 53 (.int .i64 a0.ID)), (44, .pointer (some ⟨b2, 3, none⟩))]) (by kernel_rfl) ?_
            refine OpsT.cons (Does.yi (Yl.load (d := 45) (T := 3) (v := .int .i64 a0.Time) (by kernel_rfl) (ldB ty3 (l := c_ApiEvent a0) (o := 3) (v := .int .i64 a0.Time) (ent_refl _) (by kernel_rfl))) hI ?_)
            refine OpsT.pures (r := [5, 6]) [4] [43, 46] (S' := [(43, .iface 53 (.int .i64 a0.ID)), (46, .iface 53 (.int .i64 a0.Time))]) (by kernel_rfl) ?_
            refine OpsT.cons (Does.buildSlice (en := cD43) (d := 47) (n := 2) (T := 40) (ps := [(0, .iface 53 (.int .i64 a0.ID)), (1, .iface 53 (.int .i64 a0.Time))]) ([(Dyn43.i53 a0.ID), (Dyn43.i53 a0.Time)] : List Dyn43) (by kernel_rfl) Go.Proofs.Try.underlying40 ty43 (by kernel_rfl) (by kernel_rfl) (by kernel_rfl) (by kernel_rfl) (len_all (fun _ => rfl)) hI ?_)
            intro b13 w hI
            refine OpsT.pures (r := []) [6] [2] (S' := [(2, .slice (some ⟨b13, 0, none⟩) (([(Dyn43.i53 a0.ID), (Dyn43.i53 a0.Time)] : List Dyn43).length) 2)]) (by kernel_rfl) ?_
            refine OpsT.done ?_
            refine Qn.then ?_
            refine CodT.ret ?_
            refine Qn.block_ret ?_
            refine Qn.ret_then ?_
            have hI := hI.mono (pick2 _ _ _)
            have hI := hI.drop
            have e := someS h0
            subst e
            refine Qn.keep [2] (S' := [(2, .slice (some ⟨b13, 0, none⟩) (([(Dyn43.i53 a0.ID), (Dyn43.i53 a0.Time)] : List Dyn43).length) 2)]) (by kernel_rfl) ?_
            exact post_ret (v := .slice (some ⟨b13, 0, none⟩) (([(Dyn43.i53 a0.ID), (Dyn43.i53 a0.Time)] : List Dyn43).length) 2) (fun a ha => RunRes.run (vs := [.slice (some ⟨b13, 0, none⟩) (([(Dyn43.i53 a0.ID), (Dyn43.i53 a0.Time)] : List Dyn43).length) 2]) (.tmp (t := 2) (by kernel_rfl) .nil) ha (by kernel_rfl)) ⟨(some ⟨b13, 0, none⟩), 2, rfl, hI⟩
          · rw [if_neg hb12] at h0
            refine CodT.no' (b := a0.Kind == 3) (by kernel_rfl) (by simpa using hb12) ?_
            refine CodT.seq ?_
            refine CodT.regionL [0, 1] (by kernel_rfl) ?_
            refine OpsT.pures (r := []) [0, 1] [1, 3, 7, 48] (S' := [(1, .pointer (some ⟨b2, 0, none⟩)), (3, .int .i64 a0.ID), (7, .int .i64 a0.Kind), (48, .bool (a0.Kind == 6))]) (by kernel_rfl) ?_
            refine OpsT.done ?_
            refine Qn.then ?_
            by_cases hb14 : (a0.Kind == 6) = true
            · rw [if_pos hb14] at h0
              refine CodT.yes' (b := a0.Kind == 6) (by kernel_rfl) hb14 ?_
              refine CodT.seq ?_
              refine CodT.regionL [0, 1, 2, 3] (by kernel_rfl) ?_
              refine OpsT.pures (r := [2, 3]) [0, 1] [51] (S' := [(51, .iface 53 (.int .i64 a0.ID))]) (by kernel_rfl) ?_
              refine OpsT.cons (Does.buildSlice (en := cD43) (d := 52) (n := 1) (T := 40) (ps := [(0, .iface 53 (.int .i64 a0.ID))]) ([(Dyn43.i53 a0.ID)] : List Dyn43) (by kernel_rfl) Go.Proofs.Try.underlying40 ty43 (by kernel_rfl) (by kernel_rfl) (by kernel_rfl) (by kernel_rfl) (len_all (fun _ => rfl)) hI ?_)
              intro b15 w hI
              refine OpsT.pures (r := []) [3] [2] (S' := [(2, .slice (some ⟨b15, 0, none⟩) (([(Dyn43.i53 a0.ID)] : List Dyn43).length) 1)]) (by kernel_rfl) ?_
              refine OpsT.done ?_
              refine Qn.then ?_
              refine CodT.ret ?_
              refine Qn.block_ret ?_
              refine Qn.ret_then ?_
              have hI := hI.mono (pick2 _ _ _)
              have hI := hI.drop
              have e := someS h0
              subst e
              refine Qn.keep [2] (S' := [(2, .slice (some ⟨b15, 0, none⟩) (([(Dyn43.i53 a0.ID)] : List Dyn43).length) 1)]) (by kernel_rfl) ?_
              exact post_ret (v := .slice (some ⟨b15, 0, none⟩) (([(Dyn43.i53 a0.ID)] : List Dyn43).length) 1) (fun a ha => RunRes.run (vs := [.slice (some ⟨b15, 0, none⟩) (([(Dyn43.i53 a0.ID)] : List Dyn43).length) 1]) (.tmp (t := 2) (by kernel_rfl) .nil) ha (by kernel_rfl)) ⟨(some ⟨b15, 0, none⟩), 1, rfl, hI⟩
            · rw [if_neg hb14] at h0
              refine CodT.no' (b := a0.Kind == 6) (by kernel_rfl) (by simpa using hb14) ?_
              refine CodT.seq ?_
              refine CodT.regionL [0, 1] (by kernel_rfl) ?_
              refine OpsT.pures (r := []) [0, 1] [1, 53] (S' := [(1, .pointer (some ⟨b2, 0, none⟩)), (53, .bool (a0.Kind == 7))]) (by kernel_rfl) ?_
              refine OpsT.done ?_
              refine Qn.then ?_
              by_cases hb16 : (a0.Kind == 7) = true
              · rw [if_pos hb16] at h0
                refine CodT.yes' (b := a0.Kind == 7) (by kernel_rfl) hb16 ?_
                refine CodT.seq ?_
                refine CodT.regionL [0, 1, 2, 3, 4] (by kernel_rfl) ?_
                refine OpsT.pures (r := [1, 2, 3, 4]) [0] [55] (S' := [(55, .pointer (some ⟨b2, 3, none⟩))]) (by kernel_rfl) ?_
                refine OpsT.cons (Does.yi (Yl.load (d := 56) (T := 3) (v := .int .i64 a0.Time) (by kernel_rfl) (ldB ty3 (l := c_ApiEvent a0) (o := 3) (v := .int .i64 a0.Time) (ent_refl _) (by kernel_rfl))) hI ?_)
                refine OpsT.pures (r := [3, 4]) [2] [57] (S' := [(57, .iface 53 (.int .i64 a0.Time))]) (by kernel_rfl) ?_
                refine OpsT.cons (Does.buildSlice (en := cD43) (d := 58) (n := 1) (T := 40) (ps := [(0, .iface 53 (.int .i64 a0.Time))]) ([(Dyn43.i53 a0.Time)] : List Dyn43) (by kernel_rfl) Go.Proofs.Try.underlying40 ty43 (by kernel_rfl) (by kernel_rfl) (by kernel_rfl) (by kernel_rfl) (len_all (fun _ => rfl)) hI ?_)
                intro b17 w hI
                refine OpsT.pures (r := []) [4] [2] (S' := [(2, .slice (some ⟨b17, 0, none⟩) (([(Dyn43.i53 a0.Time)] : List Dyn43).length) 1)]) (by kernel_rfl) ?_
                refine OpsT.done ?_
                refine Qn.then ?_
                refine CodT.ret ?_
                refine Qn.block_ret ?_
                refine Qn.ret_then ?_
                have hI := hI.mono (pick2 _ _ _)
                have hI := hI.drop
                have e := someS h0
                subst e
                refine Qn.keep [2] (S' := [(2, .slice (some ⟨b17, 0, none⟩) (([(Dyn43.i53 a0.Time)] : List Dyn43).length) 1)]) (by kernel_rfl) ?_
                exact post_ret (v := .slice (some ⟨b17, 0, none⟩) (([(Dyn43.i53 a0.Time)] : List Dyn43).length) 1) (fun a ha => RunRes.run (vs := [.slice (some ⟨b17, 0, none⟩) (([(Dyn43.i53 a0.Time)] : List Dyn43).length) 1]) (.tmp (t := 2) (by kernel_rfl) .nil) ha (by kernel_rfl)) ⟨(some ⟨b17, 0, none⟩), 1, rfl, hI⟩
              · rw [if_neg hb16] at h0
                refine CodT.no' (b := a0.Kind == 7) (by kernel_rfl) (by simpa using hb16) ?_
                refine CodT.skip ?_
                refine Qn.block_normal ?_
                refine Qn.then ?_
                refine CodT.seq ?_
                refine CodT.regionL [0] (by kernel_rfl) ?_
                refine OpsT.pures (r := []) [0] [2] (S' := [(2, .slice none 0 0)]) (by kernel_rfl) ?_
                refine OpsT.done ?_
                refine Qn.then ?_
                refine CodT.ret ?_
                have hI := ownS_nil (α := Dyn43) hI 43 cD43 1
                have hI := hI.mono (pick2 _ _ _)
                have hI := hI.drop
                have e := someS h0
                subst e
                refine Qn.keep [2] (S' := [(2, .slice none 0 0)]) (by kernel_rfl) ?_
                exact post_ret (v := .slice none 0 0) (fun a ha => RunRes.run (vs := [.slice none 0 0]) (.tmp (t := 2) (by kernel_rfl) .nil) ha (by kernel_rfl)) ⟨none, 0, rfl, hI⟩
set_option maxRecDepth 100000 in
set_option maxHeartbeats 4000000 in
/-- cenotaph/event.of -/
theorem c15 (w0 w : World) (Z : Hp) (A : HP) (hI : Inv w0 Z w A) (hT : Tabs Z) (a0 : Int) (A_a1 : Option Addr) (c_a1 : Nat) (a1 : (List Dyn43)) (hr_a1 : RdS Z cD43 1 A_a1 c_a1 a1) (r : ApiEvent) (h0 : event_of a0 a1 = some r) :
    Calls prog 15 #[.int .i64 a0, .slice A_a1 a1.length c_a1] w (fun e w' => e = .returned (.agg (c_ApiEvent r).toArray) ∧ r.Sum.length = 32 ∧ Inv w0 Z w' A) := by
  have e4 := calls_intro (R := (fun e w' => e = .returned (.agg (c_ApiEvent r).toArray) ∧ r.Sum.length = 32 ∧ Inv w0 Z w' A)) (w := w) (args := [.int .i64 a0, .slice A_a1 a1.length c_a1]) (fn := Go.Proofs.Try.f15) 74 Go.Proofs.Try.func15 (by rfl) Go.Proofs.Try.ntmps15 (by kernel_rfl)
  refine e4 ?_
  clear e4
  unfold event_of at h0
  refine CodT.seq ?_
  refine CodT.regionL [0] (by kernel_rfl) ?_
  refine OpsT.cons (Does.allocL (d := 4) (T := 26) (c_ApiEvent (ApiEvent.mk 0 0 (⟨#[]⟩ : ByteArray) 0 0 (List.replicate 32 (0 : Int)))) (by kernel_rfl) ty26 hI (by kernel_rfl) ?_)
  intro b1 w hI
  refine OpsT.done ?_
  refine Qn.then ?_
  refine CodT.seq ?_
  refine CodT.regionL [0, 1, 2, 3] (by kernel_rfl) ?_
  refine OpsT.pures (r := [2, 3]) [0, 1] [0, 1, 4, 13] (S' := [(0, .int .i64 a0), (1, .slice A_a1 a1.length c_a1), (4, .pointer (some ⟨b1, 0, none⟩)), (13, .agg (c_ApiEvent (ApiEvent.mk a0 0 (⟨#[]⟩ : ByteArray) 0 0 (List.replicate 32 (0 : Int)))).toArray)]) (by kernel_rfl) ?_
  refine OpsT.cons (Does.allocL (d := 5) (T := 26) (c_ApiEvent (ApiEvent.mk 0 0 (⟨#[]⟩ : ByteArray) 0 0 (List.replicate 32 (0 : Int)))) (by kernel_rfl) ty26 hI (by kernel_rfl) ?_)
  intro b2 w hI
  refine OpsT.cons (Does.storeLit (T := 26) (b := b2) (o := 0) (v := .agg (c_ApiEvent (ApiEvent.mk a0 0 (⟨#[]⟩ : ByteArray) 0 0 (List.replicate 32 (0 : Int)))).toArray) (l := c_ApiEvent (ApiEvent.mk 0 0 (⟨#[]⟩ : ByteArray) 0 0 (List.replicate 32 (0 : Int)))) (vs := c_ApiEvent (ApiEvent.mk a0 0 (⟨#[]⟩ : ByteArray) 0 0 (List.replicate 32 (0 : Int)))) (L' := c_ApiEvent (ApiEvent.mk a0 0 (⟨#[]⟩ : ByteArray) 0 0 (List.replicate 32 (0 : Int)))) (by kernel_rfl) ty26 hI (by kernel_rfl) (len_ApiEvent _ (by kernel_rfl)) (by rw [(len_ApiEvent _ (by kernel_rfl))]; kernel_rfl) (ones_app _ _ (by kernel_rfl) (ones_cA _)) (lset_all _ _ (Eq.trans (len_ApiEvent _ (by kernel_rfl)) (Eq.symm (len_ApiEvent _ (by kernel_rfl))))) ?_)
  intro w hI
  refine OpsT.done ?_
  refine Qn.then ?_
  refine CodT.seq ?_
  refine CodT.regionL [0] (by kernel_rfl) ?_
  refine OpsT.pures (r := []) [0] [0, 1, 4, 5, 6] (S' := [(0, .int .i64 a0), (1, .slice A_a1 a1.length c_a1), (4, .pointer (some ⟨b1, 0, none⟩)), (5, .pointer (some ⟨b2, 0, none⟩)), (6, .slice none 0 0)]) (by kernel_rfl) ?_
  refine OpsT.done ?_
  refine Qn.then ?_
  refine CodT.seq ?_
  refine CodT.seq ?_
  refine CodT.regionL [0, 1, 2] (by kernel_rfl) ?_
  refine OpsT.pures (r := []) [0, 1, 2] [0, 4, 5, 6, 14, 15, 16] (S' := [(0, .int .i64 a0), (4, .pointer (some ⟨b1, 0, none⟩)), (5, .pointer (some ⟨b2, 0, none⟩)), (6, .slice none 0 0), (14, .slice A_a1 a1.length c_a1), (15, .int .i64 (a1.length : Int)), (16, .int .i64 0)]) (by kernel_rfl) ?_
  refine OpsT.done ?_
  refine Qn.then ?_
  obtain ⟨r1, h1, h0⟩ := bindS h0
  refine CodT.meet1 (fun a w => ∃ (x3 : (List Int)) (x6 : ApiEvent) (A4 : Option Addr) (cp5 : Nat), (x3, x6) = r1 ∧ Fr 74 [(0, .int .i64 a0), (4, .pointer (some ⟨b1, 0, none⟩)), (5, .pointer (some ⟨b2, 0, none⟩)), (6, .slice A4 x3.length cp5)] a ∧ Inv w0 Z w (star (ownS 3 (cI .i64) 1 A4 cp5 x3) (star (pt b2 (.cells (c_ApiEvent x6).toArray 26 (0, 0))) (star (pt b1 (.cells (c_ApiEvent (ApiEvent.mk 0 0 (⟨#[]⟩ : ByteArray) 0 0 (List.replicate 32 (0 : Int)))).toArray 26 (0, 0))) A))) ∧ x6.Sum.length = 32) ?_ ?_
  ·
    refine CodT.block ?_
    have hI := ownS_nil (α := Int) hI 3 (cI .i64) 1
    refine (fun a ha => wp_loopN (fun k a w => ∃ (x8 : (List Int)) (x11 : Int) (x12 : ApiEvent) (A9 : Option Addr) (cp10 : Nat), event_of.l0 a1 k x8 x11 x12 = some r1 ∧ Fr 74 [(0, .int .i64 a0), (4, .pointer (some ⟨b1, 0, none⟩)), (5, .pointer (some ⟨b2, 0, none⟩)), (6, .slice A9 x8.length cp10), (14, .slice A_a1 a1.length c_a1), (15, .int .i64 (a1.length : Int)), (16, .int .i64 x11)] a ∧ Inv w0 Z w (star (ownS 3 (cI .i64) 1 A9 cp10 x8) (star (pt b2 (.cells (c_ApiEvent x12).toArray 26 (0, 0))) (star (pt b1 (.cells (c_ApiEvent (ApiEvent.mk 0 0 (⟨#[]⟩ : ByteArray) 0 0 (List.replicate 32 (0 : Int)))).toArray 26 (0, 0))) A))) ∧ x12.Sum.length = 32) ?_ FU a w ⟨([] : List Int), 0, (ApiEvent.mk a0 0 (⟨#[]⟩ : ByteArray) 0 0 (List.replicate 32 (0 : Int))), none, 0, h1, ha.keep [0, 4, 5, 6, 14, 15, 16] (by kernel_rfl), hI, (by kernel_rfl)⟩)
    clear h1 hI
    rintro k a w ⟨x8, x11, x12, A9, cp10, h1, ha, hI, hl13⟩
    rcases k with _ | k
    · cases h1
    simp only [event_of.l0] at h1
    refine CodT.of ?_ ha
    refine CodT.seq ?_
    refine CodT.regionL [0] (by kernel_rfl) ?_
    refine OpsT.pures (r := []) [0] [0, 4, 5, 6, 14, 15, 16, 17] (S' := [(0, .int .i64 a0), (4, .pointer (some ⟨b1, 0, none⟩)), (5, .pointer (some ⟨b2, 0, none⟩)), (6, .slice A9 x8.length cp10), (14, .slice A_a1 a1.length c_a1), (15, .int .i64 (a1.length : Int)), (16, .int .i64 x11), (17, .bool (decide (x11 < (a1.length : Int))))]) (by kernel_rfl) ?_
    refine OpsT.done ?_
    refine Qn.then ?_
    refine CodT.seq ?_
    by_cases hb14 : (decide (x11 < (a1.length : Int))) = true
    · rw [if_pos hb14] at h1
      refine CodT.yes' (b := decide (x11 < (a1.length : Int))) (by kernel_rfl) hb14 ?_
      refine CodT.skip ?_
      refine Qn.then ?_
      obtain ⟨r2, h2, h1⟩ := bindS h1
      refine CodT.meet (fun a w => ∃ (x15 : (List Int)) (x18 : ApiEvent) (A16 : Option Addr) (cp17 : Nat), (x15, x18) = r2 ∧ Fr 74 [(0, .int .i64 a0), (4, .pointer (some ⟨b1, 0, none⟩)), (5, .pointer (some ⟨b2, 0, none⟩)), (6, .slice A16 x15.length cp17), (14, .slice A_a1 a1.length c_a1), (15, .int .i64 (a1.length : Int)), (16, .int .i64 x11)] a ∧ Inv w0 Z w (star (ownS 3 (cI .i64) 1 A16 cp17 x15) (star (pt b2 (.cells (c_ApiEvent x18).toArray 26 (0, 0))) (star (pt b1 (.cells (c_ApiEvent (ApiEvent.mk 0 0 (⟨#[]⟩ : ByteArray) 0 0 (List.replicate 32 (0 : Int)))).toArray 26 (0, 0))) A))) ∧ x18.Sum.length = 32) ?_ ?_
      ·
        refine CodT.block ?_
        refine CodT.seq ?_
        refine CodT.regionL [0, 1, 2] (by kernel_rfl) ?_
        obtain ⟨hg20, h2⟩ := guardS h2
        obtain ⟨g21, o25, hA22, hr23, hl24⟩ := RdS.get hr_a1 hg20.1 hg20.2
        refine OpsT.cons (Does.yi (Yl.indexSlice (d := 18) (T := 40) (cc := c_a1) (k := .i64) (j := x11) (g := g21) (o := o25) (by kernel_rfl) Go.Proofs.Try.underlying40 ty43 hA22 hg20.1 hg20.2) hI ?_)
        refine OpsT.cons (Does.yi (Yl.load (d := 19) (T := 43) (v := dynV43 (gt a1 x11)) (by kernel_rfl) (ldR ty43 (v := dynV43 (gt a1 x11)) 0 (fun w hC => hr23 w0 w _ hC) (by kernel_rfl))) hI ?_)
        refine OpsT.pures (r := []) [2] [0, 4, 5, 6, 8, 14, 15, 16] (S' := [(0, .int .i64 a0), (4, .pointer (some ⟨b1, 0, none⟩)), (5, .pointer (some ⟨b2, 0, none⟩)), (6, .slice A9 x8.length cp10), (8, dynV43 (gt a1 x11)), (14, .slice A_a1 a1.length c_a1), (15, .int .i64 (a1.length : Int)), (16, .int .i64 x11)]) (by kernel_rfl) ?_
        refine OpsT.done ?_
        refine Qn.then ?_
        refine CodT.seq ?_
        refine CodT.regionL [0] (by kernel_rfl) ?_
        refine OpsT.pures (r := []) [0] [0, 4, 5, 6, 14, 15, 16, 20] (S' := [(0, .int .i64 a0), (4, .pointer (some ⟨b1, 0, none⟩)), (5, .pointer (some ⟨b2, 0, none⟩)), (6, .slice A9 x8.length cp10), (14, .slice A_a1 a1.length c_a1), (15, .int .i64 (a1.length : Int)), (16, .int .i64 x11), (20, dynV43 (gt a1 x11))]) (by kernel_rfl) ?_
        refine OpsT.done ?_
        refine Qn.then ?_
        refine CodT.block ?_
        refine CodT.seq ?_
        refine CodT.regionL [0, 1, 2] (by kernel_rfl) ?_
        rcases hd26 : gt a1 x11 with _ | z27 | z28 | z29
        ·
          simp only [hd26] at h2
          refine OpsT.keep [0, 4, 5, 6, 14, 15, 16, 20] (S' := [(0, .int .i64 a0), (4, .pointer (some ⟨b1, 0, none⟩)), (5, .pointer (some ⟨b2, 0, none⟩)), (6, .slice A9 x8.length cp10), (14, .slice A_a1 a1.length c_a1), (15, .int .i64 (a1.length : Int)), (16, .int .i64 x11), (20, .nilIface)]) (by (try simp only [hd26]); kernel_rfl) ?_
          refine OpsT.pures (r := []) [0, 1, 2] [0, 4, 5, 6, 14, 15, 16, 20, 22, 23] (S' := [(0, .int .i64 a0), (4, .pointer (some ⟨b1, 0, none⟩)), (5, .pointer (some ⟨b2, 0, none⟩)), (6, .slice A9 x8.length cp10), (14, .slice A_a1 a1.length c_a1), (15, .int .i64 (a1.length : Int)), (16, .int .i64 x11), (20, .nilIface), (22, .bool false), (23, .int .i64 0)]) (by kernel_rfl) ?_
          refine OpsT.done ?_
          refine Qn.then ?_
          refine CodT.no (by kernel_rfl) ?_
          refine CodT.seq ?_
          refine CodT.regionL [0, 1, 2] (by kernel_rfl) ?_
          refine OpsT.pures (r := []) [0, 1, 2] [0, 4, 5, 6, 14, 15, 16, 20, 29, 30] (S' := [(0, .int .i64 a0), (4, .pointer (some ⟨b1, 0, none⟩)), (5, .pointer (some ⟨b2, 0, none⟩)), (6, .slice A9 x8.length cp10), (14, .slice A_a1 a1.length c_a1), (15, .int .i64 (a1.length : Int)), (16, .int .i64 x11), (20, .nilIface), (29, .bool false), (30, .string (⟨#[]⟩ : ByteArray))]) (by kernel_rfl) ?_
          refine OpsT.done ?_
          refine Qn.then ?_
          refine CodT.no (by kernel_rfl) ?_
          refine CodT.seq ?_
          refine CodT.regionL [0, 1, 2] (by kernel_rfl) ?_
          refine OpsT.pures (r := []) [0, 1, 2] [0, 4, 5, 6, 14, 15, 16, 34, 35] (S' := [(0, .int .i64 a0), (4, .pointer (some ⟨b1, 0, none⟩)), (5, .pointer (some ⟨b2, 0, none⟩)), (6, .slice A9 x8.length cp10), (14, .slice A_a1 a1.length c_a1), (15, .int .i64 (a1.length : Int)), (16, .int .i64 x11), (34, .bool false), (35, .agg (cA (Value.int .u8) (List.replicate 32 (0 : Int))).toArray)]) (by kernel_rfl) ?_
          refine OpsT.done ?_
          refine Qn.then ?_
          refine CodT.no (by kernel_rfl) ?_
          refine CodT.skip ?_
          refine Qn.block_normal ?_
          refine Qn.block_normal ?_
          have e := someS h2
          subst e
          exact Qn.thenJ fun a ha => ⟨x8, x12, A9, cp10, rfl, ha.keep [0, 4, 5, 6, 14, 15, 16] (by kernel_rfl), hI, hl13⟩
        ·
          simp only [hd26] at h2
          refine OpsT.keep [0, 4, 5, 6, 14, 15, 16, 20] (S' := [(0, .int .i64 a0), (4, .pointer (some ⟨b1, 0, none⟩)), (5, .pointer (some ⟨b2, 0, none⟩)), (6, .slice A9 x8.length cp10), (14, .slice A_a1 a1.length c_a1), (15, .int .i64 (a1.length : Int)), (16, .int .i64 x11), (20, .iface 53 (.int .i64 z27))]) (by (try simp only [hd26]); kernel_rfl) ?_
          refine OpsT.pures (r := []) [0, 1, 2] [0, 4, 5, 6, 14, 15, 16, 20, 22, 23] (S' := [(0, .int .i64 a0), (4, .pointer (some ⟨b1, 0, none⟩)), (5, .pointer (some ⟨b2, 0, none⟩)), (6, .slice A9 x8.length cp10), (14, .slice A_a1 a1.length c_a1), (15, .int .i64 (a1.length : Int)), (16, .int .i64 x11), (20, .iface 53 (.int .i64 z27)), (22, .bool true), (23, .int .i64 z27)]) (by kernel_rfl) ?_
          refine OpsT.done ?_
          refine Qn.then ?_
          refine CodT.yes (by kernel_rfl) ?_
          refine CodT.seq ?_
          refine CodT.regionL [0] (by kernel_rfl) ?_
          refine OpsT.pures (r := []) [0] [0, 4, 5, 6, 9, 14, 15, 16] (S' := [(0, .int .i64 a0), (4, .pointer (some ⟨b1, 0, none⟩)), (5, .pointer (some ⟨b2, 0, none⟩)), (6, .slice A9 x8.length cp10), (9, .int .i64 z27), (14, .slice A_a1 a1.length c_a1), (15, .int .i64 (a1.length : Int)), (16, .int .i64 x11)]) (by kernel_rfl) ?_
          refine OpsT.done ?_
          refine Qn.then ?_
          refine CodT.regionL [0, 1, 2, 3, 4] (by kernel_rfl) ?_
          refine OpsT.pures (r := [2, 3, 4]) [0, 1] [0, 4, 5, 14, 15, 16, 24, 25] (S' := [(0, .int .i64 a0), (4, .pointer (some ⟨b1, 0, none⟩)), (5, .pointer (some ⟨b2, 0, none⟩)), (14, .slice A_a1 a1.length c_a1), (15, .int .i64 (a1.length : Int)), (16, .int .i64 x11), (24, .slice A9 x8.length cp10), (25, .int .i64 z27)]) (by kernel_rfl) ?_
          refine OpsT.cons (Does.buildSlice (en := (cI .i64)) (d := 26) (n := 1) (T := 34) (ps := [(0, .int .i64 z27)]) ([z27] : List Int) (by kernel_rfl) Go.Proofs.Try.underlying34 ty3 (by kernel_rfl) (by kernel_rfl) (by kernel_rfl) (by kernel_rfl) (len_all (fun _ => rfl)) hI ?_)
          intro b30 w hI
          obtain ⟨hg31, h2⟩ := guardS h2
          have hI := hI.mono (pick2 _ _ _)
          refine OpsT.cons (Does.append (d := 27) (t := 34) (tx := 34) (ty := 34) (ys := x8) (zs := ([z27] : List Int)) (x := .slice (some ⟨b30, 0, none⟩) (([z27] : List Int).length) 1) (by kernel_rfl) Go.Proofs.Try.underlying34 ty3 (by kernel_rfl) hI (src_own Go.Proofs.Try.underlying34 (hI.mono (pick2 _ _ _)) (one_flat _ (fun _ => rfl))) (ownS_facts (hI.mono (pick2 _ _ _))).2.2 (by unfold LIM at hg31; omega) hg31 ?_)
          intro A32 cp33 w hI
          refine OpsT.pures (r := []) [4] [0, 4, 5, 6, 14, 15, 16] (S' := [(0, .int .i64 a0), (4, .pointer (some ⟨b1, 0, none⟩)), (5, .pointer (some ⟨b2, 0, none⟩)), (6, .slice A32 ((x8 ++ ([z27] : List Int)).length) cp33), (14, .slice A_a1 a1.length c_a1), (15, .int .i64 (a1.length : Int)), (16, .int .i64 x11)]) (by kernel_rfl) ?_
          refine OpsT.done ?_
          refine Qn.block_normal ?_
          refine Qn.block_normal ?_
          have hI := hI.mono (pick2 _ _ _)
          have hI := hI.drop
          have e := someS h2
          subst e
          exact Qn.thenJ fun a ha => ⟨x8 ++ ([z27] : List Int), x12, A32, cp33, rfl, ha.keep [0, 4, 5, 6, 14, 15, 16] (by kernel_rfl), hI, hl13⟩
        ·
          simp only [hd26] at h2
          refine OpsT.keep [0, 4, 5, 6, 14, 15, 16, 20] (S' := [(0, .int .i64 a0), (4, .pointer (some ⟨b1, 0, none⟩)), (5, .pointer (some ⟨b2, 0, none⟩)), (6, .slice A9 x8.length cp10), (14, .slice A_a1 a1.length c_a1), (15, .int .i64 (a1.length : Int)), (16, .int .i64 x11), (20, .iface 54 (.string z28))]) (by (try simp only [hd26]); kernel_rfl) ?_
          refine OpsT.pures (r := []) [0, 1, 2] [0, 4, 5, 6, 14, 15, 16, 20, 22, 23] (S' := [(0, .int .i64 a0), (4, .pointer (some ⟨b1, 0, none⟩)), (5, .pointer (some ⟨b2, 0, none⟩)), (6, .slice A9 x8.length cp10), (14, .slice A_a1 a1.length c_a1), (15, .int .i64 (a1.length : Int)), (16, .int .i64 x11), (20, .iface 54 (.string z28)), (22, .bool false), (23, .int .i64 0)]) (by kernel_rfl) ?_
          refine OpsT.done ?_
          refine Qn.then ?_
          refine CodT.no (by kernel_rfl) ?_
          refine CodT.seq ?_
          refine CodT.regionL [0, 1, 2] (by kernel_rfl) ?_
          refine OpsT.pures (r := []) [0, 1, 2] [0, 4, 5, 6, 14, 15, 16, 20, 29, 30] (S' := [(0, .int .i64 a0), (4, .pointer (some ⟨b1, 0, none⟩)), (5, .pointer (some ⟨b2, 0, none⟩)), (6, .slice A9 x8.length cp10), (14, .slice A_a1 a1.length c_a1), (15, .int .i64 (a1.length : Int)), (16, .int .i64 x11), (20, .iface 54 (.string z28)), (29, .bool true), (30, .string z28)]) (by kernel_rfl) ?_
          refine OpsT.done ?_
          refine Qn.then ?_
          refine CodT.yes (by kernel_rfl) ?_
          refine CodT.seq ?_
          refine CodT.regionL [0] (by kernel_rfl) ?_
          refine OpsT.pures (r := []) [0] [0, 4, 5, 6, 10, 14, 15, 16] (S' := [(0, .int .i64 a0), (4, .pointer (some ⟨b1, 0, none⟩)), (5, .pointer (some ⟨b2, 0, none⟩)), (6, .slice A9 x8.length cp10), (10, .string z28), (14, .slice A_a1 a1.length c_a1), (15, .int .i64 (a1.length : Int)), (16, .int .i64 x11)]) (by kernel_rfl) ?_
          refine OpsT.done ?_
          refine Qn.then ?_
          refine CodT.regionL [0, 1, 2] (by kernel_rfl) ?_
          refine OpsT.pures (r := [2]) [0, 1] [0, 4, 5, 6, 14, 15, 16, 31, 32] (S' := [(0, .int .i64 a0), (4, .pointer (some ⟨b1, 0, none⟩)), (5, .pointer (some ⟨b2, 0, none⟩)), (6, .slice A9 x8.length cp10), (14, .slice A_a1 a1.length c_a1), (15, .int .i64 (a1.length : Int)), (16, .int .i64 x11), (31, .string z28), (32, .pointer (some ⟨b2, 2, none⟩))]) (by kernel_rfl) ?_
          have hI := hI.mono (pick2 _ _ _)
          refine OpsT.cons (Does.storeLit (T := 9) (b := b2) (o := 2) (v := .string z28) (l := c_ApiEvent x12) (vs := ([.string z28] : List Value)) (L' := c_ApiEvent (ApiEvent.mk x12.Kind x12.ID z28 x12.Time x12.Len x12.Sum)) (by kernel_rfl) ty9 hI (by kernel_rfl) (by kernel_rfl) (by kernel_rfl) (by kernel_rfl) (by kernel_rfl) ?_)
          intro w hI
          refine OpsT.done ?_
          refine Qn.block_normal ?_
          refine Qn.block_normal ?_
          have hI := hI.mono (pick3 _ _ _ _)
          have hI := hI.mono (pick2 _ _ _)
          have hI := hI.mono (pick3 _ _ _ _)
          have e := someS h2
          subst e
          exact Qn.thenJ fun a ha => ⟨x8, (ApiEvent.mk x12.Kind x12.ID z28 x12.Time x12.Len x12.Sum), A9, cp10, rfl, ha.keep [0, 4, 5, 6, 14, 15, 16] (by kernel_rfl), hI, hl13⟩
        ·
          simp only [hd26] at h2
          obtain ⟨hg34, h2⟩ := guardS h2
          refine OpsT.keep [0, 4, 5, 6, 14, 15, 16, 20] (S' := [(0, .int .i64 a0), (4, .pointer (some ⟨b1, 0, none⟩)), (5, .pointer (some ⟨b2, 0, none⟩)), (6, .slice A9 x8.length cp10), (14, .slice A_a1 a1.length c_a1), (15, .int .i64 (a1.length : Int)), (16, .int .i64 x11), (20, .iface 60 (.agg (cA (Value.int .u8) z29).toArray))]) (by (try simp only [hd26]); kernel_rfl) ?_
          refine OpsT.pures (r := []) [0, 1, 2] [0, 4, 5, 6, 14, 15, 16, 20, 22, 23] (S' := [(0, .int .i64 a0), (4, .pointer (some ⟨b1, 0, none⟩)), (5, .pointer (some ⟨b2, 0, none⟩)), (6, .slice A9 x8.length cp10), (14, .slice A_a1 a1.length c_a1), (15, .int .i64 (a1.length : Int)), (16, .int .i64 x11), (20, .iface 60 (.agg (cA (Value.int .u8) z29).toArray)), (22, .bool false), (23, .int .i64 0)]) (by kernel_rfl) ?_
          refine OpsT.done ?_
          refine Qn.then ?_
          refine CodT.no (by kernel_rfl) ?_
          refine CodT.seq ?_
          refine CodT.regionL [0, 1, 2] (by kernel_rfl) ?_
          refine OpsT.pures (r := []) [0, 1, 2] [0, 4, 5, 6, 14, 15, 16, 20, 29, 30] (S' := [(0, .int .i64 a0), (4, .pointer (some ⟨b1, 0, none⟩)), (5, .pointer (some ⟨b2, 0, none⟩)), (6, .slice A9 x8.length cp10), (14, .slice A_a1 a1.length c_a1), (15, .int .i64 (a1.length : Int)), (16, .int .i64 x11), (20, .iface 60 (.agg (cA (Value.int .u8) z29).toArray)), (29, .bool false), (30, .string (⟨#[]⟩ : ByteArray))]) (by kernel_rfl) ?_
          refine OpsT.done ?_
          refine Qn.then ?_
          refine CodT.no (by kernel_rfl) ?_
          refine CodT.seq ?_
          refine CodT.regionL [0, 1, 2] (by kernel_rfl) ?_
          refine OpsT.pures (r := []) [0, 1, 2] [0, 4, 5, 6, 14, 15, 16, 34, 35] (S' := [(0, .int .i64 a0), (4, .pointer (some ⟨b1, 0, none⟩)), (5, .pointer (some ⟨b2, 0, none⟩)), (6, .slice A9 x8.length cp10), (14, .slice A_a1 a1.length c_a1), (15, .int .i64 (a1.length : Int)), (16, .int .i64 x11), (34, .bool true), (35, .agg (cA (Value.int .u8) z29).toArray)]) (by kernel_rfl) ?_
          refine OpsT.done ?_
          refine Qn.then ?_
          refine CodT.yes (by kernel_rfl) ?_
          refine CodT.seq ?_
          refine CodT.regionL [0, 1] (by kernel_rfl) ?_
          refine OpsT.cons (Does.allocL (d := 11) (T := 60) (cA (Value.int .u8) (List.replicate 32 (0 : Int))) (by kernel_rfl) ty60 hI (by kernel_rfl) ?_)
          intro b35 w hI
          refine OpsT.cons (Does.storeAll (T := 60) (b := b35) (n := 32) (xs := (List.replicate 32 (0 : Int))) (ys := z29) (by kernel_rfl) ty60 hI (fun _ => rfl) (by kernel_rfl) hg34 ?_)
          intro w hI
          refine OpsT.done ?_
          refine Qn.then ?_
          refine CodT.regionL [0, 1, 2] (by kernel_rfl) ?_
          refine OpsT.cons (Does.yi (Yl.load (d := 36) (T := 60) (v := .agg (cA (Value.int .u8) z29).toArray) (by kernel_rfl) (ldBN ty60 (l := cA (Value.int .u8) z29) (o := 0) (cs := cA (Value.int .u8) z29) (ent_refl _) ((cA_length _ _).trans hg34) (whole _ _ ((cA_length _ _).trans hg34)))) hI ?_)
          refine OpsT.pures (r := [2]) [1] [0, 4, 5, 6, 14, 15, 16, 36, 37] (S' := [(0, .int .i64 a0), (4, .pointer (some ⟨b1, 0, none⟩)), (5, .pointer (some ⟨b2, 0, none⟩)), (6, .slice A9 x8.length cp10), (14, .slice A_a1 a1.length c_a1), (15, .int .i64 (a1.length : Int)), (16, .int .i64 x11), (36, .agg (cA (Value.int .u8) z29).toArray), (37, .pointer (some ⟨b2, 5, none⟩))]) (by kernel_rfl) ?_
          have hI := hI.mono (pick3 _ _ _ _)
          refine OpsT.cons (Does.storeLit (T := 24) (b := b2) (o := 5) (v := .agg (cA (Value.int .u8) z29).toArray) (l := c_ApiEvent x12) (vs := cA (Value.int .u8) z29) (L' := c_ApiEvent (ApiEvent.mk x12.Kind x12.ID x12.Name x12.Time x12.Len z29)) (by kernel_rfl) ty24 hI (by kernel_rfl) ((cA_length _ _).trans hg34) (by rw [(len_ApiEvent _ hl13)]; kernel_rfl) (ones_cA _) (tail_all _ _ _ _ _ (by kernel_rfl) (Eq.trans hg34 (Eq.symm hl13))) ?_)
          intro w hI
          refine OpsT.done ?_
          refine Qn.block_normal ?_
          refine Qn.block_normal ?_
          have hI := hI.mono (pick2 _ _ _)
          have hI := hI.drop
          have hI := hI.mono (pick3 _ _ _ _)
          have hI := hI.mono (pick2 _ _ _)
          have hI := hI.mono (pick3 _ _ _ _)
          have e := someS h2
          subst e
          exact Qn.thenJ fun a ha => ⟨x8, (ApiEvent.mk x12.Kind x12.ID x12.Name x12.Time x12.Len z29), A9, cp10, rfl, ha.keep [0, 4, 5, 6, 14, 15, 16] (by kernel_rfl), hI, hg34⟩
      ·
        rintro a w ⟨x15, x18, A16, cp17, rfl, ha, hI, hl19⟩
        try dsimp only at h1
        refine CodT.of ?_ ha
        refine CodT.regionL [0, 1] (by kernel_rfl) ?_
        refine OpsT.pures (r := []) [0, 1] [0, 4, 5, 6, 14, 15, 16] (S' := [(0, .int .i64 a0), (4, .pointer (some ⟨b1, 0, none⟩)), (5, .pointer (some ⟨b2, 0, none⟩)), (6, .slice A16 x15.length cp17), (14, .slice A_a1 a1.length c_a1), (15, .int .i64 (a1.length : Int)), (16, .int .i64 (wi64 (x11 + 1)))]) (by kernel_rfl) ?_
        refine OpsT.done ?_
        exact Qn.thenJ fun a ha => ⟨k, Nat.lt_succ_self k, x15, wi64 (x11 + 1), x18, A16, cp17, h1, ha.keep [0, 4, 5, 6, 14, 15, 16] (by kernel_rfl), hI, hl19⟩
    · rw [if_neg hb14] at h1
      refine CodT.no' (b := decide (x11 < (a1.length : Int))) (by kernel_rfl) (by simpa using hb14) ?_
      refine CodT.exit ?_
      refine Qn.exit_then ?_
      refine Qn.exit_then ?_
      refine Qn.block ?_
      have e := someS h1
      subst e
      exact Qn.thenJ fun a ha => ⟨x8, x12, A9, cp10, rfl, ha.keep [0, 4, 5, 6] (by kernel_rfl), hI, hl13⟩
  ·
    rintro a w ⟨x3, x6, A4, cp5, rfl, ha, hI, hl7⟩
    try dsimp only at h0
    refine Qn.of ?_ ha
    refine Qn.then ?_
    obtain ⟨r1, h1, h0⟩ := bindS h0
    refine CodT.meet (fun a w => ∃ (x36 : ApiEvent), .inr x36 = r1 ∧ Fr 74 [(4, .pointer (some ⟨b1, 0, none⟩)), (5, .pointer (some ⟨b2, 0, none⟩)), (6, .slice A4 x3.length cp5)] a ∧ Inv w0 Z w (star (pt b2 (.cells (c_ApiEvent x36).toArray 26 (0, 0))) (star (pt b1 (.cells (c_ApiEvent (ApiEvent.mk 0 0 (⟨#[]⟩ : ByteArray) 0 0 (List.replicate 32 (0 : Int)))).toArray 26 (0, 0))) (star (ownS 3 (cI .i64) 1 A4 cp5 x3) A))) ∧ x36.Sum.length = 32) ?_ ?_
    ·
      refine CodT.seq ?_
      refine CodT.regionL [0] (by kernel_rfl) ?_
      refine OpsT.pures (r := []) [0] [4, 5, 6, 39] (S' := [(4, .pointer (some ⟨b1, 0, none⟩)), (5, .pointer (some ⟨b2, 0, none⟩)), (6, .slice A4 x3.length cp5), (39, .int .i64 a0)]) (by kernel_rfl) ?_
      refine OpsT.done ?_
      refine Qn.then ?_
      refine CodT.block ?_
      refine CodT.seq ?_
      refine CodT.regionL [0, 1] (by kernel_rfl) ?_
      refine OpsT.pures (r := []) [0, 1] [4, 5, 6, 39, 40] (S' := [(4, .pointer (some ⟨b1, 0, none⟩)), (5, .pointer (some ⟨b2, 0, none⟩)), (6, .slice A4 x3.length cp5), (39, .int .i64 a0), (40, .bool (a0 == 7))]) (by kernel_rfl) ?_
      refine OpsT.done ?_
      refine Qn.then ?_
      by_cases hb38 : (a0 == 7) = true
      · rw [if_pos hb38] at h1
        refine CodT.yes' (b := a0 == 7) (by kernel_rfl) hb38 ?_
        refine CodT.seq ?_
        refine CodT.regionL [0, 1, 2, 3, 4] (by kernel_rfl) ?_
        refine OpsT.pures (r := [1, 2, 3, 4]) [0] [4, 5, 42] (S' := [(4, .pointer (some ⟨b1, 0, none⟩)), (5, .pointer (some ⟨b2, 0, none⟩)), (42, .slice A4 x3.length cp5)]) (by kernel_rfl) ?_
        obtain ⟨hg39, h1⟩ := guardS h1
        obtain ⟨g40, hA41, hr42, hl43⟩ := ownS_get hI hg39.1 hg39.2
        refine OpsT.cons (Does.yi (Yl.indexSlice (d := 43) (T := 34) (cc := cp5) (k := .i64) (j := 0) (g := g40) (o := 0) (by kernel_rfl) Go.Proofs.Try.underlying34 ty3 hA41 hg39.1 hg39.2) hI ?_)
        refine OpsT.cons (Does.yi (Yl.load (d := 44) (T := 3) (v := .int .i64 (gt x3 0)) (by kernel_rfl) (ldR ty3 (v := .int .i64 (gt x3 0)) 0 (fun w hC => hr42 w0 w _ hC) (by kernel_rfl))) hI ?_)
        refine OpsT.pures (r := [4]) [3] [4, 5, 44, 45] (S' := [(4, .pointer (some ⟨b1, 0, none⟩)), (5, .pointer (some ⟨b2, 0, none⟩)), (44, .int .i64 (gt x3 0)), (45, .pointer (some ⟨b2, 3, none⟩))]) (by kernel_rfl) ?_
        have hI := hI.mono (pick2 _ _ _)
        refine OpsT.cons (Does.storeLit (T := 3) (b := b2) (o := 3) (v := .int .i64 (gt x3 0)) (l := c_ApiEvent x6) (vs := ([.int .i64 (gt x3 0)] : List Value)) (L' := c_ApiEvent (ApiEvent.mk x6.Kind x6.ID x6.Name (gt x3 0) x6.Len x6.Sum)) (by kernel_rfl) ty3 hI (by kernel_rfl) (by kernel_rfl) (by kernel_rfl) (by kernel_rfl) (by kernel_rfl) ?_)
        intro w hI
        refine OpsT.done ?_
        refine Qn.then ?_
        refine CodT.seq ?_
        refine CodT.regionL [0, 1] (by kernel_rfl) ?_
        refine OpsT.cons (Does.yi (Yl.load (d := 46) (T := 26) (v := .agg (c_ApiEvent (ApiEvent.mk x6.Kind x6.ID x6.Name (gt x3 0) x6.Len x6.Sum)).toArray) (by kernel_rfl) (ldBN ty26 (l := c_ApiEvent (ApiEvent.mk x6.Kind x6.ID x6.Name (gt x3 0) x6.Len x6.Sum)) (o := 0) (cs := c_ApiEvent (ApiEvent.mk x6.Kind x6.ID x6.Name (gt x3 0) x6.Len x6.Sum)) (ent_refl _) (len_ApiEvent _ hl7) (whole _ _ (len_ApiEvent _ hl7)))) hI ?_)
        have hI := hI.mono (pick3 _ _ _ _)
        refine OpsT.cons (Does.storeLit (T := 26) (b := b1) (o := 0) (v := .agg (c_ApiEvent (ApiEvent.mk x6.Kind x6.ID x6.Name (gt x3 0) x6.Len x6.Sum)).toArray) (l := c_ApiEvent (ApiEvent.mk 0 0 (⟨#[]⟩ : ByteArray) 0 0 (List.replicate 32 (0 : Int)))) (vs := c_ApiEvent (ApiEvent.mk x6.Kind x6.ID x6.Name (gt x3 0) x6.Len x6.Sum)) (L' := c_ApiEvent (ApiEvent.mk x6.Kind x6.ID x6.Name (gt x3 0) x6.Len x6.Sum)) (by kernel_rfl) ty26 hI (by kernel_rfl) (len_ApiEvent _ hl7) (by rw [(len_ApiEvent _ (by kernel_rfl))]; kernel_rfl) (ones_app _ _ (by kernel_rfl) (ones_cA _)) (lset_all _ _ (Eq.trans (len_ApiEvent _ hl7) (Eq.symm (len_ApiEvent _ (by kernel_rfl))))) ?_)
        intro w hI
        refine OpsT.done ?_
        refine Qn.then ?_
        refine CodT.ret ?_
        refine Qn.block_ret ?_
        refine Qn.ret_then ?_
        have hL44 := (ldBN ty26 (l := c_ApiEvent (ApiEvent.mk x6.Kind x6.ID x6.Name (gt x3 0) x6.Len x6.Sum)) (o := 0) (cs := c_ApiEvent (ApiEvent.mk x6.Kind x6.ID x6.Name (gt x3 0) x6.Len x6.Sum)) (ent_refl _) (len_ApiEvent _ hl7) (whole _ _ (len_ApiEvent _ hl7))) w hI
        have hI := hI.drop
        have hI := hI.drop
        have hI := hI.drop
        have e := someS h1
        subst e
        try dsimp only at h0
        have e := someS h0
        subst e
        refine Qn.keep [4] (S' := [(4, .pointer (some ⟨b1, 0, none⟩))]) (by kernel_rfl) ?_
        exact post_ret (v := .agg (c_ApiEvent (ApiEvent.mk x6.Kind x6.ID x6.Name (gt x3 0) x6.Len x6.Sum)).toArray) (fun a ha => RunRes.run (vs := [.agg (c_ApiEvent (ApiEvent.mk x6.Kind x6.ID x6.Name (gt x3 0) x6.Len x6.Sum)).toArray]) (.cell (t := 4) (T := 26) (ad := ⟨b1, 0, none⟩) (by kernel_rfl) hL44 .nil) ha (by kernel_rfl)) ⟨rfl, hl7, hI⟩
      · rw [if_neg hb38] at h1
        refine CodT.no' (b := a0 == 7) (by kernel_rfl) (by simpa using hb38) ?_
        refine CodT.seq ?_
        refine CodT.regionL [0, 1] (by kernel_rfl) ?_
        refine OpsT.pures (r := []) [0, 1] [4, 5, 6, 39, 47] (S' := [(4, .pointer (some ⟨b1, 0, none⟩)), (5, .pointer (some ⟨b2, 0, none⟩)), (6, .slice A4 x3.length cp5), (39, .int .i64 a0), (47, .bool (a0 == 1))]) (by kernel_rfl) ?_
        refine OpsT.done ?_
        refine Qn.then ?_
        by_cases hb45 : (a0 == 1) = true
        · rw [if_pos hb45] at h1
          refine CodT.yes' (b := a0 == 1) (by kernel_rfl) hb45 ?_
          refine CodT.regionL [0, 1, 2, 3, 4] (by kernel_rfl) ?_
          refine OpsT.pures (r := [1, 2, 3, 4]) [0] [4, 5, 6, 49] (S' := [(4, .pointer (some ⟨b1, 0, none⟩)), (5, .pointer (some ⟨b2, 0, none⟩)), (6, .slice A4 x3.length cp5), (49, .slice A4 x3.length cp5)]) (by kernel_rfl) ?_
          obtain ⟨hg46, h1⟩ := guardS h1
          obtain ⟨g47, hA48, hr49, hl50⟩ := ownS_get hI hg46.1 hg46.2
          refine OpsT.cons (Does.yi (Yl.indexSlice (d := 50) (T := 34) (cc := cp5) (k := .i64) (j := 1) (g := g47) (o := 0) (by kernel_rfl) Go.Proofs.Try.underlying34 ty3 hA48 hg46.1 hg46.2) hI ?_)
          refine OpsT.cons (Does.yi (Yl.load (d := 51) (T := 3) (v := .int .i64 (gt x3 1)) (by kernel_rfl) (ldR ty3 (v := .int .i64 (gt x3 1)) 0 (fun w hC => hr49 w0 w _ hC) (by kernel_rfl))) hI ?_)
          refine OpsT.pures (r := [4]) [3] [4, 5, 6, 51, 52] (S' := [(4, .pointer (some ⟨b1, 0, none⟩)), (5, .pointer (some ⟨b2, 0, none⟩)), (6, .slice A4 x3.length cp5), (51, .int .i64 (gt x3 1)), (52, .pointer (some ⟨b2, 4, none⟩))]) (by kernel_rfl) ?_
          have hI := hI.mono (pick2 _ _ _)
          refine OpsT.cons (Does.storeLit (T := 3) (b := b2) (o := 4) (v := .int .i64 (gt x3 1)) (l := c_ApiEvent x6) (vs := ([.int .i64 (gt x3 1)] : List Value)) (L' := c_ApiEvent (ApiEvent.mk x6.Kind x6.ID x6.Name x6.Time (gt x3 1) x6.Sum)) (by kernel_rfl) ty3 hI (by kernel_rfl) (by kernel_rfl) (by kernel_rfl) (by kernel_rfl) (by kernel_rfl) ?_)
          intro w hI
          refine OpsT.done ?_
          refine Qn.block_normal ?_
          have hI := hI.mono (pick2 _ _ _)
          have hI := hI.mono (pick3 _ _ _ _)
          have hI := hI.mono (pick3 _ _ _ _)
          have e := someS h1
          subst e
          exact Qn.thenJ fun a ha => ⟨(ApiEvent.mk x6.Kind x6.ID x6.Name x6.Time (gt x3 1) x6.Sum), rfl, ha.keep [4, 5, 6] (by kernel_rfl), hI, hl7⟩
        · rw [if_neg hb45] at h1
          refine CodT.no' (b := a0 == 1) (by kernel_rfl) (by simpa using hb45) ?_
          refine CodT.seq ?_
          refine CodT.regionL [0, 1] (by kernel_rfl) ?_
          refine OpsT.pures (r := []) [0, 1] [4, 5, 6, 39, 53] (S' := [(4, .pointer (some ⟨b1, 0, none⟩)), (5, .pointer (some ⟨b2, 0, none⟩)), (6, .slice A4 x3.length cp5), (39, .int .i64 a0), (53, .bool (a0 == 2))]) (by kernel_rfl) ?_
          refine OpsT.done ?_
          refine Qn.then ?_
          by_cases hb51 : (a0 == 2) = true
          · rw [if_pos hb51] at h1
            refine CodT.yes' (b := a0 == 2) (by kernel_rfl) hb51 ?_
            refine CodT.drawC (n := 10) (B := (star (ownS 3 (cI .i64) 1 A4 cp5 x3) (star (pt b1 (.cells (c_ApiEvent (ApiEvent.mk 0 0 (⟨#[]⟩ : ByteArray) 0 0 (List.replicate 32 (0 : Int)))).toArray 26 (0, 0))) A))) [] (by kernel_rfl) (by kernel_rfl) hI ?_
            intro w hI
            refine GmT.p' 0 55 (.slice A4 x3.length cp5) (by kernel_rfl) (by kernel_rfl) ?_
            refine GmT.p' 3 58 (.slice A4 x3.length cp5) (by kernel_rfl) (by kernel_rfl) ?_
            obtain ⟨hg52, h1⟩ := guardS h1
            obtain ⟨g53, hA54, hr55, hl56⟩ := ownS_get hI hg52.1 hg52.2
            have hC := hI
            have hC := hC.mono (pick2 _ _ _)
            have hC := hC.drop
            refine GmT.r (i := 1) 2 (by kernel_rfl) (by kernel_rfl) (Yl.indexSlice (d := 56) (T := 34) (cc := cp5) (k := .i64) (j := 1) (g := g53) (o := 0) (by kernel_rfl) Go.Proofs.Try.underlying34 ty3 hA54 hg52.1 hg52.2) hC ?_
            have hC := hI
            have hC := hC.mono (pick2 _ _ _)
            have hC := hC.drop
            refine GmT.r (i := 2) 2 (by kernel_rfl) (by kernel_rfl) (Yl.load (d := 57) (T := 3) (v := .int .i64 (gt x3 1)) (by kernel_rfl) (ldR ty3 (v := .int .i64 (gt x3 1)) 0 (fun w hC => hr55 w0 w _ hC) (by kernel_rfl))) hC ?_
            refine GmT.p' 6 61 (.pointer (some ⟨b2, 3, none⟩)) (by kernel_rfl) (by kernel_rfl) ?_
            obtain ⟨hg57, h1⟩ := guardS h1
            obtain ⟨g58, hA59, hr60, hl61⟩ := ownS_get hI hg57.1 hg57.2
            have hC := hI
            have hC := hC.mono (pick2 _ _ _)
            have hC := hC.drop
            refine GmT.r (i := 4) 2 (by kernel_rfl) (by kernel_rfl) (Yl.indexSlice (d := 59) (T := 34) (cc := cp5) (k := .i64) (j := 2) (g := g58) (o := 0) (by kernel_rfl) Go.Proofs.Try.underlying34 ty3 hA59 hg57.1 hg57.2) hC ?_
            have hC := hI
            have hC := hC.mono (pick2 _ _ _)
            have hC := hC.drop
            refine GmT.r (i := 5) 2 (by kernel_rfl) (by kernel_rfl) (Yl.load (d := 60) (T := 3) (v := .int .i64 (gt x3 2)) (by kernel_rfl) (ldR ty3 (v := .int .i64 (gt x3 2)) 0 (fun w hC => hr60 w0 w _ hC) (by kernel_rfl))) hC ?_
            have hI := hI.mono (pick2 _ _ _)
            refine GmT.o (i := 7) (by kernel_rfl) (Does.storeLit (T := 3) (b := b2) (o := 3) (v := .int .i64 (gt x3 1)) (l := c_ApiEvent x6) (vs := ([.int .i64 (gt x3 1)] : List Value)) (L' := c_ApiEvent (ApiEvent.mk x6.Kind x6.ID x6.Name (gt x3 1) x6.Len x6.Sum)) (by kernel_rfl) ty3 hI (by kernel_rfl) (by kernel_rfl) (by kernel_rfl) (by kernel_rfl) (by kernel_rfl) ?_)
            intro w hI
            have hC := hI
            have hC := hC.drop
            refine ⟨fun _ _ => hC, ?_⟩
            refine GmT.p' 8 62 (.pointer (some ⟨b2, 4, none⟩)) (by kernel_rfl) (by kernel_rfl) ?_
            refine GmT.o (i := 9) (by kernel_rfl) (Does.storeLit (T := 3) (b := b2) (o := 4) (v := .int .i64 (gt x3 2)) (l := c_ApiEvent (ApiEvent.mk x6.Kind x6.ID x6.Name (gt x3 1) x6.Len x6.Sum)) (vs := ([.int .i64 (gt x3 2)] : List Value)) (L' := c_ApiEvent (ApiEvent.mk x6.Kind x6.ID x6.Name (gt x3 1) (gt x3 2) x6.Sum)) (by kernel_rfl) ty3 hI (by kernel_rfl) (by kernel_rfl) (by kernel_rfl) (by kernel_rfl) (by kernel_rfl) ?_)
            intro w hI
            have hC := hI
            have hC := hC.drop
            refine ⟨fun _ _ => hC, ?_⟩
            refine GmT.done (by kernel_rfl) ?_
            refine Qn.block_normal ?_
            have hI := hI.mono (pick2 _ _ _)
            have hI := hI.mono (pick3 _ _ _ _)
            have hI := hI.mono (pick3 _ _ _ _)
            have e := someS h1
            subst e
            exact Qn.thenJ fun a ha => ⟨(ApiEvent.mk x6.Kind x6.ID x6.Name (gt x3 1) (gt x3 2) x6.Sum), rfl, ha.keep [4, 5, 6] (by kernel_rfl), hI, hl7⟩
          · rw [if_neg hb51] at h1
            refine CodT.no' (b := a0 == 2) (by kernel_rfl) (by simpa using hb51) ?_
            refine CodT.seq ?_
            refine CodT.regionL [0, 1] (by kernel_rfl) ?_
            refine OpsT.pures (r := []) [0, 1] [4, 5, 6, 63] (S' := [(4, .pointer (some ⟨b1, 0, none⟩)), (5, .pointer (some ⟨b2, 0, none⟩)), (6, .slice A4 x3.length cp5), (63, .bool (a0 == 3))]) (by kernel_rfl) ?_
            refine OpsT.done ?_
            refine Qn.then ?_
            by_cases hb62 : (a0 == 3) = true
            · rw [if_pos hb62] at h1
              refine CodT.yes' (b := a0 == 3) (by kernel_rfl) hb62 ?_
              refine CodT.regionL [0, 1, 2, 3, 4] (by kernel_rfl) ?_
              refine OpsT.pures (r := [1, 2, 3, 4]) [0] [4, 5, 6, 65] (S' := [(4, .pointer (some ⟨b1, 0, none⟩)), (5, .pointer (some ⟨b2, 0, none⟩)), (6, .slice A4 x3.length cp5), (65, .slice A4 x3.length cp5)]) (by kernel_rfl) ?_
              obtain ⟨hg63, h1⟩ := guardS h1
              obtain ⟨g64, hA65, hr66, hl67⟩ := ownS_get hI hg63.1 hg63.2
              refine OpsT.cons (Does.yi (Yl.indexSlice (d := 66) (T := 34) (cc := cp5) (k := .i64) (j := 1) (g := g64) (o := 0) (by kernel_rfl) Go.Proofs.Try.underlying34 ty3 hA65 hg63.1 hg63.2) hI ?_)
              refine OpsT.cons (Does.yi (Yl.load (d := 67) (T := 3) (v := .int .i64 (gt x3 1)) (by kernel_rfl) (ldR ty3 (v := .int .i64 (gt x3 1)) 0 (fun w hC => hr66 w0 w _ hC) (by kernel_rfl))) hI ?_)
              refine OpsT.pures (r := [4]) [3] [4, 5, 6, 67, 68] (S' := [(4, .pointer (some ⟨b1, 0, none⟩)), (5, .pointer (some ⟨b2, 0, none⟩)), (6, .slice A4 x3.length cp5), (67, .int .i64 (gt x3 1)), (68, .pointer (some ⟨b2, 3, none⟩))]) (by kernel_rfl) ?_
              have hI := hI.mono (pick2 _ _ _)
              refine OpsT.cons (Does.storeLit (T := 3) (b := b2) (o := 3) (v := .int .i64 (gt x3 1)) (l := c_ApiEvent x6) (vs := ([.int .i64 (gt x3 1)] : List Value)) (L' := c_ApiEvent (ApiEvent.mk x6.Kind x6.ID x6.Name (gt x3 1) x6.Len x6.Sum)) (by kernel_rfl) ty3 hI (by kernel_rfl) (by kernel_rfl) (by kernel_rfl) (by kernel_rfl) (by kernel_rfl) ?_)
              intro w hI
              refine OpsT.done ?_
              refine Qn.block_normal ?_
              have hI := hI.mono (pick2 _ _ _)
              have hI := hI.mono (pick3 _ _ _ _)
              have hI := hI.mono (pick3 _ _ _ _)
              have e := someS h1
              subst e
              exact Qn.thenJ fun a ha => ⟨(ApiEvent.mk x6.Kind x6.ID x6.Name (gt x3 1) x6.Len x6.Sum), rfl, ha.keep [4, 5, 6] (by kernel_rfl), hI, hl7⟩
            · rw [if_neg hb62] at h1
              refine CodT.no' (b := a0 == 3) (by kernel_rfl) (by simpa using hb62) ?_
              refine CodT.skip ?_
              refine Qn.block_normal ?_
              have hI := hI.mono (pick3 _ _ _ _)
              have hI := hI.mono (pick3 _ _ _ _)
              have e := someS h1
              subst e
              exact Qn.thenJ fun a ha => ⟨x6, rfl, ha.keep [4, 5, 6] (by kernel_rfl), hI, hl7⟩
    ·
      rintro a w ⟨x36, rfl, ha, hI, hl37⟩
      try dsimp only at h0
      refine CodT.of ?_ ha
      refine CodT.seq ?_
      refine CodT.regionL [0, 1, 2, 3, 4] (by kernel_rfl) ?_
      refine OpsT.pures (r := [1, 2, 3, 4]) [0] [4, 5, 69] (S' := [(4, .pointer (some ⟨b1, 0, none⟩)), (5, .pointer (some ⟨b2, 0, none⟩)), (69, .slice A4 x3.length cp5)]) (by kernel_rfl) ?_
      obtain ⟨hg68, h0⟩ := guardS h0
      obtain ⟨g69, hA70, hr71, hl72⟩ := ownS_get (hI.mono (pick3 _ _ _ _)) hg68.1 hg68.2
      refine OpsT.cons (Does.yi (Yl.indexSlice (d := 70) (T := 34) (cc := cp5) (k := .i64) (j := 0) (g := g69) (o := 0) (by kernel_rfl) Go.Proofs.Try.underlying34 ty3 hA70 hg68.1 hg68.2) hI ?_)
      refine OpsT.cons (Does.yi (Yl.load (d := 71) (T := 3) (v := .int .i64 (gt x3 0)) (by kernel_rfl) (ldR ty3 (v := .int .i64 (gt x3 0)) 0 (fun w hC => hr71 w0 w _ (hC.mono (pick3 _ _ _ _))) (by kernel_rfl))) hI ?_)
      refine OpsT.pures (r := [4]) [3] [4, 5, 71, 72] (S' := [(4, .pointer (some ⟨b1, 0, none⟩)), (5, .pointer (some ⟨b2, 0, none⟩)), (71, .int .i64 (gt x3 0)), (72, .pointer (some ⟨b2, 1, none⟩))]) (by kernel_rfl) ?_
      refine OpsT.cons (Does.storeLit (T := 3) (b := b2) (o := 1) (v := .int .i64 (gt x3 0)) (l := c_ApiEvent x36) (vs := ([.int .i64 (gt x3 0)] : List Value)) (L' := c_ApiEvent (ApiEvent.mk x36.Kind (gt x3 0) x36.Name x36.Time x36.Len x36.Sum)) (by kernel_rfl) ty3 hI (by kernel_rfl) (by kernel_rfl) (by kernel_rfl) (by kernel_rfl) (by kernel_rfl) ?_)
      intro w hI
      refine OpsT.done ?_
      refine Qn.then ?_
      refine CodT.seq ?_
      refine CodT.regionL [0, 1] (by kernel_rfl) ?_
      refine OpsT.cons (Does.yi (Yl.load (d := 73) (T := 26) (v := .agg (c_ApiEvent (ApiEvent.mk x36.Kind (gt x3 0) x36.Name x36.Time x36.Len x36.Sum)).toArray) (by kernel_rfl) (ldBN ty26 (l := c_ApiEvent (ApiEvent.mk x36.Kind (gt x3 0) x36.Name x36.Time x36.Len x36.Sum)) (o := 0) (cs := c_ApiEvent (ApiEvent.mk x36.Kind (gt x3 0) x36.Name x36.Time x36.Len x36.Sum)) (ent_refl _) (len_ApiEvent _ hl37) (whole _ _ (len_ApiEvent _ hl37)))) hI ?_)
      have hI := hI.mono (pick2 _ _ _)
      refine OpsT.cons (Does.storeLit (T := 26) (b := b1) (o := 0) (v := .agg (c_ApiEvent (ApiEvent.mk x36.Kind (gt x3 0) x36.Name x36.Time x36.Len x36.Sum)).toArray) (l := c_ApiEvent (ApiEvent.mk 0 0 (⟨#[]⟩ : ByteArray) 0 0 (List.replicate 32 (0 : Int)))) (vs := c_ApiEvent (ApiEvent.mk x36.Kind (gt x3 0) x36.Name x36.Time x36.Len x36.Sum)) (L' := c_ApiEvent (ApiEvent.mk x36.Kind (gt x3 0) x36.Name x36.Time x36.Len x36.Sum)) (by kernel_rfl) ty26 hI (by kernel_rfl) (len_ApiEvent _ hl37) (by rw [(len_ApiEvent _ (by kernel_rfl))]; kernel_rfl) (ones_app _ _ (by kernel_rfl) (ones_cA _)) (lset_all _ _ (Eq.trans (len_ApiEvent _ hl37) (Eq.symm (len_ApiEvent _ (by kernel_rfl))))) ?_)
      intro w hI
      refine OpsT.done ?_
      refine Qn.then ?_
      refine CodT.ret ?_
      have hL73 := (ldBN ty26 (l := c_ApiEvent (ApiEvent.mk x36.Kind (gt x3 0) x36.Name x36.Time x36.Len x36.Sum)) (o := 0) (cs := c_ApiEvent (ApiEvent.mk x36.Kind (gt x3 0) x36.Name x36.Time x36.Len x36.Sum)) (ent_refl _) (len_ApiEvent _ hl37) (whole _ _ (len_ApiEvent _ hl37))) w hI
      have hI := hI.drop
      have hI := hI.drop
      have hI := hI.drop
      have e := someS h0
      subst e
      refine Qn.keep [4] (S' := [(4, .pointer (some ⟨b1, 0, none⟩))]) (by kernel_rfl) ?_
      exact post_ret (v := .agg (c_ApiEvent (ApiEvent.mk x36.Kind (gt x3 0) x36.Name x36.Time x36.Len x36.Sum)).toArray) (fun a ha => RunRes.run (vs := [.agg (c_ApiEvent (ApiEvent.mk x36.Kind (gt x3 0) x36.Name x36.Time x36.Len x36.Sum)).toArray]) (.cell (t := 4) (T := 26) (ad := ⟨b1, 0, none⟩) (by kernel_rfl) hL73 .nil) ha (by kernel_rfl)) ⟨rfl, hl37, hI⟩
set_option maxRecDepth 100000 in
set_option maxHeartbeats 4000000 in
/-- cenotaph/name.Count -/
theorem c23 (w0 w : World) (Z : Hp) (A : HP) (hI : Inv w0 Z w A) (hT : Tabs Z) (a0 : ByteArray) (r : Int) (h0 : name_Count a0 = some r) :
    Calls prog 23 #[.string a0] w (fun e w' => e = .returned (.int .i64 r) ∧ Inv w0 Z w' A) := by
  have e4 := calls_intro (R := (fun e w' => e = .returned (.int .i64 r) ∧ Inv w0 Z w' A)) (w := w) (args := [.string a0]) (fn := Go.Proofs.Try.f23) 11 Go.Proofs.Try.func23 (by rfl) Go.Proofs.Try.ntmps23 (by kernel_rfl)
  refine e4 ?_
  clear e4
  unfold name_Count at h0
  refine CodT.seq ?_
  refine CodT.regionL [0] (by kernel_rfl) ?_
  refine OpsT.pures (r := []) [0] [0] (S' := [(0, .string a0)]) (by kernel_rfl) ?_
  refine OpsT.done ?_
  refine Qn.then ?_
  refine CodT.seq ?_
  refine CodT.regionL [0] (by kernel_rfl) ?_
  refine OpsT.pures (r := []) [0] [0, 3] (S' := [(0, .string a0), (3, .int .i64 0)]) (by kernel_rfl) ?_
  refine OpsT.done ?_
  refine Qn.then ?_
  refine CodT.seq ?_
  refine CodT.seq ?_
  refine CodT.regionL [0, 1] (by kernel_rfl) ?_
  refine OpsT.pures (r := [1]) [0] [3, 4] (S' := [(3, .int .i64 0), (4, .string a0)]) (by kernel_rfl) ?_
  refine OpsT.cons (Does.rangeStr (d := 5) (T := 9) (s := a0) (by kernel_rfl) Go.Proofs.Try.underlying9 hI ?_)
  intro b1 w hI
  refine OpsT.done ?_
  refine Qn.then ?_
  obtain ⟨r1, h1, h0⟩ := bindS h0
  refine CodT.meet1 (fun a w => ∃ (x2 : Int), x2 = r1 ∧ Fr 11 [(3, .int .i64 x2)] a ∧ Inv w0 Z w A) ?_ ?_
  ·
    refine CodT.block ?_
    refine (fun a ha => wp_loopN (fun k a w => ∃ (x3 : Int) (x4 : Nat), name_Count.l0 a0 k x3 x4 = some r1 ∧ Fr 11 [(3, .int .i64 x3), (5, .pointer (some ⟨b1, 0, none⟩))] a ∧ Inv w0 Z w (star (pt b1 (.stringIter a0 x4)) A)) ?_ FU a w ⟨0, 0, h1, ha.keep [3, 5] (by kernel_rfl), hI⟩)
    clear h1 hI
    rintro k a w ⟨x3, x4, h1, ha, hI⟩
    rcases k with _ | k
    · cases h1
    simp only [name_Count.l0] at h1
    refine CodT.of ?_ ha
    refine CodT.seq ?_
    refine CodT.regionL [0, 1] (by kernel_rfl) ?_
    by_cases hb5 : x4 < a0.size
    · rw [if_pos hb5] at h1
      refine OpsT.cons (Does.nextStr (d := 6) (b := b1) (pos := x4) (s := a0) (by kernel_rfl) hI hb5 ?_)
      intro w hI
      refine OpsT.pures (r := []) [1] [3, 5, 7] (S' := [(3, .int .i64 x3), (5, .pointer (some ⟨b1, 0, none⟩)), (7, .bool true)]) (by kernel_rfl) ?_
      refine OpsT.done ?_
      refine Qn.then ?_
      refine CodT.seq ?_
      refine CodT.yes (by kernel_rfl) ?_
      refine CodT.skip ?_
      refine Qn.then ?_
      refine CodT.block ?_
      refine CodT.regionL [0, 1, 2] (by kernel_rfl) ?_
      refine OpsT.pures (r := []) [0, 1, 2] [3, 5] (S' := [(3, .int .i64 (wi64 (x3 + 1))), (5, .pointer (some ⟨b1, 0, none⟩))]) (by kernel_rfl) ?_
      refine OpsT.done ?_
      refine Qn.block_normal ?_
      exact Qn.thenJ fun a ha => ⟨k, Nat.lt_succ_self k, wi64 (x3 + 1), x4 + runeW a0 x4, h1, ha.keep [3, 5] (by kernel_rfl), hI⟩
    · rw [if_neg hb5] at h1
      refine OpsT.cons (Does.nextEnd (d := 6) (b := b1) (pos := x4) (s := a0) (by kernel_rfl) hI hb5 ?_)
      refine OpsT.pures (r := []) [1] [3, 5, 7] (S' := [(3, .int .i64 x3), (5, .pointer (some ⟨b1, 0, none⟩)), (7, .bool false)]) (by kernel_rfl) ?_
      refine OpsT.done ?_
      refine Qn.then ?_
      refine CodT.seq ?_
      refine CodT.no (by kernel_rfl) ?_
      refine CodT.exit ?_
      refine Qn.exit_then ?_
      refine Qn.exit_then ?_
      refine Qn.block ?_
      have hI := hI.drop
      have e := someS h1
      subst e
      exact Qn.thenJ fun a ha => ⟨x3, rfl, ha.keep [3] (by kernel_rfl), hI⟩
  ·
    rintro a w ⟨x2, rfl, ha, hI⟩
    try dsimp only at h0
    refine Qn.of ?_ ha
    refine Qn.then ?_
    refine CodT.seq ?_
    refine CodT.regionL [0, 1] (by kernel_rfl) ?_
    refine OpsT.pures (r := []) [0, 1] [2] (S' := [(2, .int .i64 x2)]) (by kernel_rfl) ?_
    refine OpsT.done ?_
    refine Qn.then ?_
    refine CodT.ret ?_
    have e := someS h0
    subst e
    refine Qn.keep [2] (S' := [(2, .int .i64 x2)]) (by kernel_rfl) ?_
    exact post_ret (v := .int .i64 x2) (fun a ha => RunRes.run (vs := [.int .i64 x2]) (.tmp (t := 2) (by kernel_rfl) .nil) ha (by kernel_rfl)) ⟨rfl, hI⟩
set_option maxRecDepth 100000 in
set_option maxHeartbeats 4000000 in
/-- cenotaph/name.Valid$1 -/
theorem c22 (w0 w : World) (Z : Hp) (A : HP) (hI : Inv w0 Z w A) (hT : Tabs Z) (a0 : Int) (r : Bool) (h0 : name_Valid_1 a0 = some r) :
    Calls prog 22 #[.int .i32 a0] w (fun e w' => e = .returned (.bool r) ∧ Inv w0 Z w' A) := by
  have e4 := calls_intro (R := (fun e w' => e = .returned (.bool r) ∧ Inv w0 Z w' A)) (w := w) (args := [.int .i32 a0]) (fn := Go.Proofs.Try.f22) 21 Go.Proofs.Try.func22 (by rfl) Go.Proofs.Try.ntmps22 (by kernel_rfl)
  refine e4 ?_
  clear e4
  unfold name_Valid_1 at h0
  refine CodT.seq ?_
  refine CodT.regionL [0] (by kernel_rfl) ?_
  refine OpsT.pures (r := []) [0] [0] (S' := [(0, .int .i32 a0)]) (by kernel_rfl) ?_
  refine OpsT.done ?_
  refine Qn.then ?_
  obtain ⟨r1, h1, h0⟩ := bindS h0
  refine CodT.meet (fun a w => ∃ (x1 : Bool), x1 = r1 ∧ Fr 21 [(2, .bool x1)] a ∧ Inv w0 Z w A) ?_ ?_
  ·
    refine CodT.regionL [0, 1, 2, 3, 4, 5, 6, 7, 8, 9, 10, 11, 12, 13, 14, 15, 16, 17, 18] (by kernel_rfl) ?_
    refine OpsT.pures (r := [3, 4, 5, 6, 7, 8, 9, 10, 11, 12, 13, 14, 15, 16, 17, 18]) [0, 1, 2] [0, 5] (S' := [(0, .int .i32 a0), (5, .bool (decide (a0 < 32)))]) (by kernel_rfl) ?_
    by_cases hb2 : (decide (a0 < 32)) = true
    · rw [if_pos hb2] at h1
      refine OpsT.keep [0, 5] (S' := [(0, .int .i32 a0), (5, .bool true)]) (by (try simp only [hb2]); kernel_rfl) ?_
      refine OpsT.pures (r := []) [3, 4, 5, 6, 7, 8, 9, 10, 11, 12, 13, 14, 15, 16, 17, 18] [2] (S' := [(2, .bool true)]) (by kernel_rfl) ?_
      refine OpsT.done ?_
      have e := someS h1
      subst e
      exact Qn.thenJ fun a ha => ⟨true, rfl, ha.keep [2] (by kernel_rfl), hI⟩
    · rw [if_neg hb2] at h1
      have hb2 : (decide (a0 < 32)) = false := by simpa using hb2
      refine OpsT.keep [0, 5] (S' := [(0, .int .i32 a0), (5, .bool false)]) (by (try simp only [hb2]); kernel_rfl) ?_
      refine OpsT.pures (r := [7, 8, 9, 10, 11, 12, 13, 14, 15, 16, 17, 18]) [3, 4, 5, 6] [0, 9] (S' := [(0, .int .i32 a0), (9, .bool (a0 == 47))]) (by kernel_rfl) ?_
      by_cases hb3 : (a0 == 47) = true
      · rw [if_pos hb3] at h1
        refine OpsT.keep [0, 9] (S' := [(0, .int .i32 a0), (9, .bool true)]) (by (try simp only [hb3]); kernel_rfl) ?_
        refine OpsT.pures (r := []) [7, 8, 9, 10, 11, 12, 13, 14, 15, 16, 17, 18] [2] (S' := [(2, .bool true)]) (by kernel_rfl) ?_
        refine OpsT.done ?_
        have e := someS h1
        subst e
        exact Qn.thenJ fun a ha => ⟨true, rfl, ha.keep [2] (by kernel_rfl), hI⟩
      · rw [if_neg hb3] at h1
        have hb3 : (a0 == 47) = false := by simpa using hb3
        refine OpsT.keep [0, 9] (S' := [(0, .int .i32 a0), (9, .bool false)]) (by (try simp only [hb3]); kernel_rfl) ?_
        refine OpsT.pures (r := [10, 11, 12, 13, 14, 15, 16, 17, 18]) [7, 8, 9] [0, 9, 12] (S' := [(0, .int .i32 a0), (9, .bool false), (12, .bool (decide ((127 : Int) ≤ a0)))]) (by kernel_rfl) ?_
        by_cases hb4 : (decide ((127 : Int) ≤ a0)) = true
        · rw [if_pos hb4] at h1
          refine OpsT.keep [0, 9, 12] (S' := [(0, .int .i32 a0), (9, .bool false), (12, .bool true)]) (by (try simp only [hb4]); kernel_rfl) ?_
          refine OpsT.pures (r := [15, 16, 17, 18]) [10, 11, 12, 13, 14] [0, 17] (S' := [(0, .int .i32 a0), (17, .bool (decide (a0 ≤ 159)))]) (by kernel_rfl) ?_
          by_cases hb5 : (decide (a0 ≤ 159)) = true
          · rw [if_pos hb5] at h1
            refine OpsT.keep [0, 17] (S' := [(0, .int .i32 a0), (17, .bool true)]) (by (try simp only [hb5]); kernel_rfl) ?_
            refine OpsT.pures (r := []) [15, 16, 17, 18] [2] (S' := [(2, .bool true)]) (by kernel_rfl) ?_
            refine OpsT.done ?_
            have e := someS h1
            subst e
            exact Qn.thenJ fun a ha => ⟨true, rfl, ha.keep [2] (by kernel_rfl), hI⟩
          · rw [if_neg hb5] at h1
            have hb5 : (decide (a0 ≤ 159)) = false := by simpa using hb5
            refine OpsT.keep [0, 17] (S' := [(0, .int .i32 a0), (17, .bool false)]) (by (try simp only [hb5]); kernel_rfl) ?_
            refine OpsT.pures (r := []) [15, 16, 17, 18] [2] (S' := [(2, .bool (a0 == 65533))]) (by kernel_rfl) ?_
            refine OpsT.done ?_
            have e := someS h1
            subst e
            exact Qn.thenJ fun a ha => ⟨a0 == 65533, rfl, ha.keep [2] (by kernel_rfl), hI⟩
        · rw [if_neg hb4] at h1
          have hb4 : (decide ((127 : Int) ≤ a0)) = false := by simpa using hb4
          refine OpsT.keep [0, 9, 12] (S' := [(0, .int .i32 a0), (9, .bool false), (12, .bool false)]) (by (try simp only [hb4]); kernel_rfl) ?_
          refine OpsT.pures (r := []) [10, 11, 12, 13, 14, 15, 16, 17, 18] [2] (S' := [(2, .bool (a0 == 65533))]) (by kernel_rfl) ?_
          refine OpsT.done ?_
          have e := someS h1
          subst e
          exact Qn.thenJ fun a ha => ⟨a0 == 65533, rfl, ha.keep [2] (by kernel_rfl), hI⟩
  ·
    rintro a w ⟨x1, rfl, ha, hI⟩
    try dsimp only at h0
    refine CodT.of ?_ ha
    refine CodT.ret ?_
    have e := someS h0
    subst e
    refine Qn.keep [2] (S' := [(2, .bool x1)]) (by kernel_rfl) ?_
    exact post_ret (v := .bool x1) (fun a ha => RunRes.run (vs := [.bool x1]) (.tmp (t := 2) (by kernel_rfl) .nil) ha (by kernel_rfl)) ⟨rfl, hI⟩
set_option maxRecDepth 100000 in
set_option maxHeartbeats 4000000 in
/-- strings.indexFunc -/
theorem c28 (w0 w : World) (Z : Hp) (A : HP) (hI : Inv w0 Z w A) (hT : Tabs Z) (a0 : ByteArray) (a2 : Bool) (r : Int) (h0 : strings_indexFunc__name_Valid_1 a0 a2 = some r) :
    Calls prog 28 #[.string a0, .func (.func 22) #[] #[], .bool a2] w (fun e w' => e = .returned (.int .i64 r) ∧ Inv w0 Z w' A) := by
  have e4 := calls_intro (R := (fun e w' => e = .returned (.int .i64 r) ∧ Inv w0 Z w' A)) (w := w) (args := [.string a0, .func (.func 22) #[] #[], .bool a2]) (fn := Go.Proofs.Try.f28) 21 Go.Proofs.Try.func28 (by rfl) Go.Proofs.Try.ntmps28 (by kernel_rfl)
  refine e4 ?_
  clear e4
  unfold strings_indexFunc__name_Valid_1 at h0
  refine CodT.seq ?_
  refine CodT.regionL [0] (by kernel_rfl) ?_
  refine OpsT.pures (r := []) [0] [0, 1, 2] (S' := [(0, .string a0), (1, .func (.func 22) #[] #[]), (2, .bool a2)]) (by kernel_rfl) ?_
  refine OpsT.done ?_
  refine Qn.then ?_
  refine CodT.seq ?_
  refine CodT.seq ?_
  refine CodT.regionL [0, 1] (by kernel_rfl) ?_
  refine OpsT.pures (r := [1]) [0] [1, 2, 9] (S' := [(1, .func (.func 22) #[] #[]), (2, .bool a2), (9, .string a0)]) (by kernel_rfl) ?_
  refine OpsT.cons (Does.rangeStr (d := 10) (T := 9) (s := a0) (by kernel_rfl) Go.Proofs.Try.underlying9 hI ?_)
  intro b1 w hI
  refine OpsT.done ?_
  refine Qn.then ?_
  obtain ⟨r1, h1, h0⟩ := bindS h0
  refine CodT.meet1 (fun a w => .inr () = r1 ∧ Fr 21 [] a ∧ Inv w0 Z w A) ?_ ?_
  ·
    refine CodT.block ?_
    refine (fun a ha => wp_loopN (fun k a w => ∃ (x2 : Nat), strings_indexFunc__name_Valid_1.l0 a0 a2 k x2 = some r1 ∧ Fr 21 [(1, .func (.func 22) #[] #[]), (2, .bool a2), (10, .pointer (some ⟨b1, 0, none⟩))] a ∧ Inv w0 Z w (star (pt b1 (.stringIter a0 x2)) A)) ?_ FU a w ⟨0, h1, ha.keep [1, 2, 10] (by kernel_rfl), hI⟩)
    clear h1 hI
    rintro k a w ⟨x2, h1, ha, hI⟩
    rcases k with _ | k
    · cases h1
    simp only [strings_indexFunc__name_Valid_1.l0] at h1
    refine CodT.of ?_ ha
    refine CodT.seq ?_
    refine CodT.regionL [0, 1] (by kernel_rfl) ?_
    by_cases hb3 : x2 < a0.size
    · rw [if_pos hb3] at h1
      refine OpsT.cons (Does.nextStr (d := 11) (b := b1) (pos := x2) (s := a0) (by kernel_rfl) hI hb3 ?_)
      intro w hI
      refine OpsT.pures (r := []) [1] [1, 2, 10, 11, 12] (S' := [(1, .func (.func 22) #[] #[]), (2, .bool a2), (10, .pointer (some ⟨b1, 0, none⟩)), (11, .tuple #[.bool true, .int .i64 (x2 : Int), .int .i32 (runeAt a0 x2)]), (12, .bool true)]) (by kernel_rfl) ?_
      refine OpsT.done ?_
      refine Qn.then ?_
      refine CodT.seq ?_
      refine CodT.yes (by kernel_rfl) ?_
      refine CodT.skip ?_
      refine Qn.then ?_
      refine CodT.block ?_
      refine CodT.seq ?_
      refine CodT.regionL [0, 1, 2, 3] (by kernel_rfl) ?_
      refine OpsT.pures (r := []) [0, 1, 2, 3] [1, 2, 7, 8, 10] (S' := [(1, .func (.func 22) #[] #[]), (2, .bool a2), (7, .int .i64 (x2 : Int)), (8, .int .i32 (runeAt a0 x2)), (10, .pointer (some ⟨b1, 0, none⟩))]) (by kernel_rfl) ?_
      refine OpsT.done ?_
      refine Qn.then ?_
      refine CodT.seq ?_
      refine CodT.regionL [0, 1, 2, 3, 4] (by kernel_rfl) ?_
      refine OpsT.pures (r := [2, 3, 4]) [0, 1] [1, 2, 7, 10, 15, 16] (S' := [(1, .func (.func 22) #[] #[]), (2, .bool a2), (7, .int .i64 (x2 : Int)), (10, .pointer (some ⟨b1, 0, none⟩)), (15, .func (.func 22) #[] #[]), (16, .int .i32 (runeAt a0 x2))]) (by kernel_rfl) ?_
      obtain ⟨y5, hc4, h1⟩ := bindS h1
      try dsimp only at h1
      refine OpsT.cons (Does.call (d := some 17) (n := 22) (vs := [.int .i32 (runeAt a0 x2)]) (by kernel_rfl) en22 (c22 w0 w _ _ hI hT (runeAt a0 x2) _ hc4) ?_)
      rintro e w ⟨rfl, hI⟩
      refine ⟨_, rfl, ?_⟩
      refine OpsT.pures (r := []) [3, 4] [1, 2, 7, 10, 19] (S' := [(1, .func (.func 22) #[] #[]), (2, .bool a2), (7, .int .i64 (x2 : Int)), (10, .pointer (some ⟨b1, 0, none⟩)), (19, .bool (y5 == a2))]) (by kernel_rfl) ?_
      refine OpsT.done ?_
      refine Qn.then ?_
      by_cases hb6 : (y5 == a2) = true
      · rw [if_pos hb6] at h1
        refine CodT.yes' (b := y5 == a2) (by kernel_rfl) hb6 ?_
        refine CodT.seq ?_
        refine CodT.regionL [0, 1] (by kernel_rfl) ?_
        refine OpsT.pures (r := []) [0, 1] [6] (S' := [(6, .int .i64 (x2 : Int))]) (by kernel_rfl) ?_
        refine OpsT.done ?_
        refine Qn.then ?_
        refine CodT.ret ?_
        refine Qn.block_ret ?_
        refine Qn.ret_then ?_
        refine Qn.block_ret ?_
        refine Qn.ret_then ?_
        refine Qn.ret_then ?_
        have hI := hI.drop
        have e := someS h1
        subst e
        try dsimp only at h0
        have e := someS h0
        subst e
        refine Qn.keep [6] (S' := [(6, .int .i64 (x2 : Int))]) (by kernel_rfl) ?_
        exact post_ret (v := .int .i64 (x2 : Int)) (fun a ha => RunRes.run (vs := [.int .i64 (x2 : Int)]) (.tmp (t := 6) (by kernel_rfl) .nil) ha (by kernel_rfl)) ⟨rfl, hI⟩
      · rw [if_neg hb6] at h1
        refine CodT.no' (b := y5 == a2) (by kernel_rfl) (by simpa using hb6) ?_
        refine CodT.skip ?_
        refine Qn.block_normal ?_
        exact Qn.thenJ fun a ha => ⟨k, Nat.lt_succ_self k, x2 + runeW a0 x2, h1, ha.keep [1, 2, 10] (by kernel_rfl), hI⟩
    · rw [if_neg hb3] at h1
      refine OpsT.cons (Does.nextEnd (d := 11) (b := b1) (pos := x2) (s := a0) (by kernel_rfl) hI hb3 ?_)
      refine OpsT.pures (r := []) [1] [1, 2, 10, 11, 12] (S' := [(1, .func (.func 22) #[] #[]), (2, .bool a2), (10, .pointer (some ⟨b1, 0, none⟩)), (11, .tuple #[.bool false]), (12, .bool false)]) (by kernel_rfl) ?_
      refine OpsT.done ?_
      refine Qn.then ?_
      refine CodT.seq ?_
      refine CodT.no (by kernel_rfl) ?_
      refine CodT.exit ?_
      refine Qn.exit_then ?_
      refine Qn.exit_then ?_
      refine Qn.block ?_
      have hI := hI.drop
      have e := someS h1
      subst e
      exact Qn.thenJ fun a ha => ⟨rfl, ha.keep [] (by kernel_rfl), hI⟩
  ·
    rintro a w ⟨rfl, ha, hI⟩
    try dsimp only at h0
    refine Qn.of ?_ ha
    refine Qn.then ?_
    refine CodT.seq ?_
    refine CodT.regionL [0] (by kernel_rfl) ?_
    refine OpsT.pures (r := []) [0] [6] (S' := [(6, .int .i64 (-1))]) (by kernel_rfl) ?_
    refine OpsT.done ?_
    refine Qn.then ?_
    refine CodT.ret ?_
    have e := someS h0
    subst e
    refine Qn.keep [6] (S' := [(6, .int .i64 (-1))]) (by kernel_rfl) ?_
    exact post_ret (v := .int .i64 (-1)) (fun a ha => RunRes.run (vs := [.int .i64 (-1)]) (.tmp (t := 6) (by kernel_rfl) .nil) ha (by kernel_rfl)) ⟨rfl, hI⟩
set_option maxRecDepth 100000 in
set_option maxHeartbeats 4000000 in
/-- strings.IndexFunc -/
theorem c24 (w0 w : World) (Z : Hp) (A : HP) (hI : Inv w0 Z w A) (hT : Tabs Z) (a0 : ByteArray) (r : Int) (h0 : strings_IndexFunc__name_Valid_1 a0 = some r) :
    Calls prog 24 #[.string a0, .func (.func 22) #[] #[]] w (fun e w' => e = .returned (.int .i64 r) ∧ Inv w0 Z w' A) := by
  have e4 := calls_intro (R := (fun e w' => e = .returned (.int .i64 r) ∧ Inv w0 Z w' A)) (w := w) (args := [.string a0, .func (.func 22) #[] #[]]) (fn := Go.Proofs.Try.f24) 8 Go.Proofs.Try.func24 (by rfl) Go.Proofs.Try.ntmps24 (by kernel_rfl)
  refine e4 ?_
  clear e4
  unfold strings_IndexFunc__name_Valid_1 at h0
  refine CodT.seq ?_
  refine CodT.regionL [0] (by kernel_rfl) ?_
  refine OpsT.pures (r := []) [0] [0, 1] (S' := [(0, .string a0), (1, .func (.func 22) #[] #[])]) (by kernel_rfl) ?_
  refine OpsT.done ?_
  refine Qn.then ?_
  refine CodT.seq ?_
  refine CodT.regionL [0, 1, 2, 3] (by kernel_rfl) ?_
  refine OpsT.pures (r := [2, 3]) [0, 1] [5, 6] (S' := [(5, .string a0), (6, .func (.func 22) #[] #[])]) (by kernel_rfl) ?_
  obtain ⟨y2, hc1, h0⟩ := bindS h0
  try dsimp only at h0
  refine OpsT.cons (Does.call (d := some 7) (n := 28) (vs := [.string a0, .func (.func 22) #[] #[], .bool true]) (by kernel_rfl) en28 (c28 w0 w _ _ hI hT a0 true _ hc1) ?_)
  rintro e w ⟨rfl, hI⟩
  refine ⟨_, rfl, ?_⟩
  refine OpsT.pures (r := []) [3] [4] (S' := [(4, .int .i64 y2)]) (by kernel_rfl) ?_
  refine OpsT.done ?_
  refine Qn.then ?_
  refine CodT.ret ?_
  have e := someS h0
  subst e
  refine Qn.keep [4] (S' := [(4, .int .i64 y2)]) (by kernel_rfl) ?_
  exact post_ret (v := .int .i64 y2) (fun a ha => RunRes.run (vs := [.int .i64 y2]) (.tmp (t := 4) (by kernel_rfl) .nil) ha (by kernel_rfl)) ⟨rfl, hI⟩
set_option maxRecDepth 100000 in
set_option maxHeartbeats 4000000 in
/-- cenotaph/name.Valid -/
theorem c16 (w0 w : World) (Z : Hp) (A : HP) (hI : Inv w0 Z w A) (hT : Tabs Z) (a0 : ByteArray) (r : Bool) (h0 : name_Valid a0 = some r) :
    Calls prog 16 #[.string a0] w (fun e w' => e = .returned (.bool r) ∧ Inv w0 Z w' A) := by
  have e4 := calls_intro (R := (fun e w' => e = .returned (.bool r) ∧ Inv w0 Z w' A)) (w := w) (args := [.string a0]) (fn := Go.Proofs.Try.f16) 32 Go.Proofs.Try.func16 (by rfl) Go.Proofs.Try.ntmps16 (by kernel_rfl)
  refine e4 ?_
  clear e4
  unfold name_Valid at h0
  refine CodT.seq ?_
  refine CodT.regionL [0] (by kernel_rfl) ?_
  refine OpsT.pures (r := []) [0] [0] (S' := [(0, .string a0)]) (by kernel_rfl) ?_
  refine OpsT.done ?_
  refine Qn.then ?_
  refine CodT.seq ?_
  refine CodT.regionL [0] (by kernel_rfl) ?_
  refine OpsT.pures (r := []) [0] [0, 3] (S' := [(0, .string a0), (3, .func (.func 22) #[] #[])]) (by kernel_rfl) ?_
  refine OpsT.done ?_
  refine Qn.then ?_
  refine CodT.seq ?_
  refine CodT.regionL [0, 1, 2] (by kernel_rfl) ?_
  refine OpsT.pures (r := [1, 2]) [0] [0, 3, 5] (S' := [(0, .string a0), (3, .func (.func 22) #[] #[]), (5, .string a0)]) (by kernel_rfl) ?_
  obtain ⟨y2, hc1, h0⟩ := bindS h0
  try dsimp only at h0
  refine OpsT.cons (Does.call (d := some 6) (n := 23) (vs := [.string a0]) (by kernel_rfl) en23 (c23 w0 w _ _ hI hT a0 _ hc1) ?_)
  rintro e w ⟨rfl, hI⟩
  refine ⟨_, rfl, ?_⟩
  refine OpsT.pures (r := []) [2] [0, 3, 4] (S' := [(0, .string a0), (3, .func (.func 22) #[] #[]), (4, .int .i64 y2)]) (by kernel_rfl) ?_
  refine OpsT.done ?_
  refine Qn.then ?_
  obtain ⟨r1, h1, h0⟩ := bindS h0
  refine CodT.meet (fun a w => ∃ (x3 : Bool), x3 = r1 ∧ Fr 32 [(2, .bool x3)] a ∧ Inv w0 Z w A) ?_ ?_
  ·
    refine CodT.regionL [0, 1, 2, 3, 4, 5, 6, 7, 8, 9, 10, 11, 12, 13, 14, 15, 16, 17, 18, 19, 20, 21, 22, 23, 24, 25] (by kernel_rfl) ?_
    refine OpsT.pures (r := [3, 4, 5, 6, 7, 8, 9, 10, 11, 12, 13, 14, 15, 16, 17, 18, 19, 20, 21, 22, 23, 24, 25]) [0, 1, 2] [0, 3, 4, 9] (S' := [(0, .string a0), (3, .func (.func 22) #[] #[]), (4, .int .i64 y2), (9, .bool (decide (y2 > 0)))]) (by kernel_rfl) ?_
    by_cases hb4 : (decide (y2 > 0)) = true
    · rw [if_pos hb4] at h1
      refine OpsT.keep [0, 3, 4, 9] (S' := [(0, .string a0), (3, .func (.func 22) #[] #[]), (4, .int .i64 y2), (9, .bool true)]) (by (try simp only [hb4]); kernel_rfl) ?_
      refine OpsT.pures (r := [7, 8, 9, 10, 11, 12, 13, 14, 15, 16, 17, 18, 19, 20, 21, 22, 23, 24, 25]) [3, 4, 5, 6] [0, 3, 13] (S' := [(0, .string a0), (3, .func (.func 22) #[] #[]), (13, .bool (decide (y2 ≤ 24)))]) (by kernel_rfl) ?_
      by_cases hb5 : (decide (y2 ≤ 24)) = true
      · rw [if_pos hb5] at h1
        refine OpsT.keep [0, 3, 13] (S' := [(0, .string a0), (3, .func (.func 22) #[] #[]), (13, .bool true)]) (by (try simp only [hb5]); kernel_rfl) ?_
        refine OpsT.pures (r := [9, 10, 11, 12, 13, 14, 15, 16, 17, 18, 19, 20, 21, 22, 23, 24, 25]) [7, 8] [0, 13, 14, 15] (S' := [(0, .string a0), (13, .bool true), (14, .string a0), (15, .func (.func 22) #[] #[])]) (by kernel_rfl) ?_
        obtain ⟨y7, hc6, h1⟩ := bindS h1
        try dsimp only at h1
        refine OpsT.cons (Does.call (d := some 16) (n := 24) (vs := [.string a0, .func (.func 22) #[] #[]]) (by kernel_rfl) en24 (c24 w0 w _ _ hI hT a0 _ hc6) ?_)
        rintro e w ⟨rfl, hI⟩
        refine ⟨_, rfl, ?_⟩
        refine OpsT.pures (r := [13, 14, 15, 16, 17, 18, 19, 20, 21, 22, 23, 24, 25]) [10, 11, 12] [0, 19] (S' := [(0, .string a0), (19, .bool (decide (y7 < 0)))]) (by kernel_rfl) ?_
        by_cases hb8 : (decide (y7 < 0)) = true
        · rw [if_pos hb8] at h1
          refine OpsT.keep [0, 19] (S' := [(0, .string a0), (19, .bool true)]) (by (try simp only [hb8]); kernel_rfl) ?_
          refine OpsT.pures (r := [14, 15, 16, 17, 18, 19, 20, 21, 22, 23, 24, 25]) [13] [0, 19, 20] (S' := [(0, .string a0), (19, .bool true), (20, .string a0)]) (by kernel_rfl) ?_
          obtain ⟨hg9, h1⟩ := guardS h1
          refine OpsT.cons (Does.yi (Yl.indexStr (d := 21) (T := 9) (k := .i64) (j := 0) (s := a0) (by kernel_rfl) Go.Proofs.Try.underlying9 hg9.1 hg9.2) hI ?_)
          refine OpsT.pures (r := [18, 19, 20, 21, 22, 23, 24, 25]) [15, 16, 17] [0, 24] (S' := [(0, .string a0), (24, .bool ((bt a0 0) != 32))]) (by kernel_rfl) ?_
          by_cases hb10 : ((bt a0 0) != 32) = true
          · rw [if_pos hb10] at h1
            refine OpsT.keep [0, 24] (S' := [(0, .string a0), (24, .bool true)]) (by (try simp only [hb10]); kernel_rfl) ?_
            refine OpsT.pures (r := [22, 23, 24, 25]) [18, 19, 20, 21] [24, 25, 28] (S' := [(24, .bool true), (25, .string a0), (28, .int .i64 (wi64 ((a0.size : Int) - 1)))]) (by kernel_rfl) ?_
            obtain ⟨hg11, h1⟩ := guardS h1
            refine OpsT.cons (Does.yi (Yl.indexStr (d := 29) (T := 9) (k := .i64) (j := wi64 ((a0.size : Int) - 1)) (s := a0) (by kernel_rfl) Go.Proofs.Try.underlying9 hg11.1 hg11.2) hI ?_)
            refine OpsT.pures (r := []) [23, 24, 25] [2] (S' := [(2, .bool ((bt a0 (wi64 ((a0.size : Int) - 1))) != 32))]) (by kernel_rfl) ?_
            refine OpsT.done ?_
            have e := someS h1
            subst e
            exact Qn.thenJ fun a ha => ⟨(bt a0 (wi64 ((a0.size : Int) - 1))) != 32, rfl, ha.keep [2] (by kernel_rfl), hI⟩
          · rw [if_neg hb10] at h1
            have hb10 : ((bt a0 0) != 32) = false := by simpa using hb10
            refine OpsT.keep [0, 24] (S' := [(0, .string a0), (24, .bool false)]) (by (try simp only [hb10]); kernel_rfl) ?_
            refine OpsT.pures (r := []) [18, 19, 20, 21, 22, 23, 24, 25] [2] (S' := [(2, .bool false)]) (by kernel_rfl) ?_
            refine OpsT.done ?_
            have e := someS h1
            subst e
            exact Qn.thenJ fun a ha => ⟨false, rfl, ha.keep [2] (by kernel_rfl), hI⟩
        · rw [if_neg hb8] at h1
          have hb8 : (decide (y7 < 0)) = false := by simpa using hb8
          refine OpsT.keep [0, 19] (S' := [(0, .string a0), (19, .bool false)]) (by (try simp only [hb8]); kernel_rfl) ?_
          refine OpsT.pures (r := []) [13, 14, 15, 16, 17, 18, 19, 20, 21, 22, 23, 24, 25] [2] (S' := [(2, .bool false)]) (by kernel_rfl) ?_
          refine OpsT.done ?_
          have e := someS h1
          subst e
          exact Qn.thenJ fun a ha => ⟨false, rfl, ha.keep [2] (by kernel_rfl), hI⟩
      · rw [if_neg hb5] at h1
        have hb5 : (decide (y2 ≤ 24)) = false := by simpa using hb5
        refine OpsT.keep [0, 3, 13] (S' := [(0, .string a0), (3, .func (.func 22) #[] #[]), (13, .bool false)]) (by (try simp only [hb5]); kernel_rfl) ?_
        refine OpsT.pures (r := []) [7, 8, 9, 10, 11, 12, 13, 14, 15, 16, 17, 18, 19, 20, 21, 22, 23, 24, 25] [2] (S' := [(2, .bool false)]) (by kernel_rfl) ?_
        refine OpsT.done ?_
        have e := someS h1
        subst e
        exact Qn.thenJ fun a ha => ⟨false, rfl, ha.keep [2] (by kernel_rfl), hI⟩
    · rw [if_neg hb4] at h1
      have hb4 : (decide (y2 > 0)) = false := by simpa using hb4
      refine OpsT.keep [0, 3, 4, 9] (S' := [(0, .string a0), (3, .func (.func 22) #[] #[]), (4, .int .i64 y2), (9, .bool false)]) (by (try simp only [hb4]); kernel_rfl) ?_
      refine OpsT.pures (r := []) [3, 4, 5, 6, 7, 8, 9, 10, 11, 12, 13, 14, 15, 16, 17, 18, 19, 20, 21, 22, 23, 24, 25] [2] (S' := [(2, .bool false)]) (by kernel_rfl) ?_
      refine OpsT.done ?_
      have e := someS h1
      subst e
      exact Qn.thenJ fun a ha => ⟨false, rfl, ha.keep [2] (by kernel_rfl), hI⟩
  ·
    rintro a w ⟨x3, rfl, ha, hI⟩
    try dsimp only at h0
    refine CodT.of ?_ ha
    refine CodT.ret ?_
    have e := someS h0
    subst e
    refine Qn.keep [2] (S' := [(2, .bool x3)]) (by kernel_rfl) ?_
    exact post_ret (v := .bool x3) (fun a ha => RunRes.run (vs := [.bool x3]) (.tmp (t := 2) (by kernel_rfl) .nil) ha (by kernel_rfl)) ⟨rfl, hI⟩
set_option maxRecDepth 100000 in
set_option maxHeartbeats 4000000 in
/-- cenotaph/event.within -/
theorem c17 (w0 w : World) (Z : Hp) (A : HP) (hI : Inv w0 Z w A) (hT : Tabs Z) (a0 : Int) (a1 : Int) (a2 : Int) (r : Bool) (h0 : event_within a0 a1 a2 = some r) :
    Calls prog 17 #[.int .i64 a0, .int .i64 a1, .int .i64 a2] w (fun e w' => e = .returned (.bool r) ∧ Inv w0 Z w' A) := by
  have e4 := calls_intro (R := (fun e w' => e = .returned (.bool r) ∧ Inv w0 Z w' A)) (w := w) (args := [.int .i64 a0, .int .i64 a1, .int .i64 a2]) (fn := Go.Proofs.Try.f17) 15 Go.Proofs.Try.func17 (by rfl) Go.Proofs.Try.ntmps17 (by kernel_rfl)
  refine e4 ?_
  clear e4
  unfold event_within at h0
  refine CodT.seq ?_
  refine CodT.regionL [0] (by kernel_rfl) ?_
  refine OpsT.pures (r := []) [0] [0, 1, 2] (S' := [(0, .int .i64 a0), (1, .int .i64 a1), (2, .int .i64 a2)]) (by kernel_rfl) ?_
  refine OpsT.done ?_
  refine Qn.then ?_
  obtain ⟨r1, h1, h0⟩ := bindS h0
  refine CodT.meet (fun a w => ∃ (x1 : Bool), x1 = r1 ∧ Fr 15 [(6, .bool x1)] a ∧ Inv w0 Z w A) ?_ ?_
  ·
    refine CodT.regionL [0, 1, 2, 3, 4, 5, 6, 7, 8] (by kernel_rfl) ?_
    refine OpsT.pures (r := [4, 5, 6, 7, 8]) [0, 1, 2, 3] [0, 2, 10] (S' := [(0, .int .i64 a0), (2, .int .i64 a2), (10, .bool (decide (a1 ≤ a0)))]) (by kernel_rfl) ?_
    by_cases hb2 : (decide (a1 ≤ a0)) = true
    · rw [if_pos hb2] at h1
      refine OpsT.keep [0, 2, 10] (S' := [(0, .int .i64 a0), (2, .int .i64 a2), (10, .bool true)]) (by (try simp only [hb2]); kernel_rfl) ?_
      refine OpsT.pures (r := []) [4, 5, 6, 7, 8] [6] (S' := [(6, .bool (decide (a0 ≤ a2)))]) (by kernel_rfl) ?_
      refine OpsT.done ?_
      have e := someS h1
      subst e
      exact Qn.thenJ fun a ha => ⟨decide (a0 ≤ a2), rfl, ha.keep [6] (by kernel_rfl), hI⟩
    · rw [if_neg hb2] at h1
      have hb2 : (decide (a1 ≤ a0)) = false := by simpa using hb2
      refine OpsT.keep [0, 2, 10] (S' := [(0, .int .i64 a0), (2, .int .i64 a2), (10, .bool false)]) (by (try simp only [hb2]); kernel_rfl) ?_
      refine OpsT.pures (r := []) [4, 5, 6, 7, 8] [6] (S' := [(6, .bool false)]) (by kernel_rfl) ?_
      refine OpsT.done ?_
      have e := someS h1
      subst e
      exact Qn.thenJ fun a ha => ⟨false, rfl, ha.keep [6] (by kernel_rfl), hI⟩
  ·
    rintro a w ⟨x1, rfl, ha, hI⟩
    try dsimp only at h0
    refine CodT.of ?_ ha
    refine CodT.ret ?_
    have e := someS h0
    subst e
    refine Qn.keep [6] (S' := [(6, .bool x1)]) (by kernel_rfl) ?_
    exact post_ret (v := .bool x1) (fun a ha => RunRes.run (vs := [.bool x1]) (.tmp (t := 6) (by kernel_rfl) .nil) ha (by kernel_rfl)) ⟨rfl, hI⟩
set_option maxRecDepth 100000 in
set_option maxHeartbeats 4000000 in
/-- cenotaph/event.Valid -/
theorem c9 (w0 w : World) (Z : Hp) (A : HP) (hI : Inv w0 Z w A) (hT : Tabs Z) (a0 : ApiEvent) (hl1 : a0.Sum.length = 32) (r : Bool) (h0 : event_Valid a0 = some r) :
    Calls prog 9 #[.agg (c_ApiEvent a0).toArray] w (fun e w' => e = .returned (.bool r) ∧ Inv w0 Z w' A) := by
  have e4 := calls_intro (R := (fun e w' => e = .returned (.bool r) ∧ Inv w0 Z w' A)) (w := w) (args := [.agg (c_ApiEvent a0).toArray]) (fn := Go.Proofs.Try.f9) 63 Go.Proofs.Try.func9 (by rfl) Go.Proofs.Try.ntmps9 (by kernel_rfl)
  refine e4 ?_
  clear e4
  unfold event_Valid at h0
  refine CodT.seq ?_
  refine CodT.regionL [0, 1] (by kernel_rfl) ?_
  refine OpsT.cons (Does.boxL (d := 1) (T := 26) (v := .agg (c_ApiEvent a0).toArray) (c_ApiEvent a0) (by kernel_rfl) hI (by kernel_rfl) ?_)
  intro b2 w hI
  refine OpsT.pures (r := []) [1] [1] (S' := [(1, .pointer (some ⟨b2, 0, none⟩))]) (by kernel_rfl) ?_
  refine OpsT.done ?_
  refine Qn.then ?_
  refine CodT.seq ?_
  refine CodT.regionL [0, 1, 2] (by kernel_rfl) ?_
  refine OpsT.cons (Does.yi (Yl.load (d := 10) (T := 26) (v := .agg (c_ApiEvent a0).toArray) (by kernel_rfl) (ldBN ty26 (l := c_ApiEvent a0) (o := 0) (cs := c_ApiEvent a0) (ent_refl _) (len_ApiEvent _ hl1) (whole _ _ (len_ApiEvent _ hl1)))) hI ?_)
  obtain ⟨y4, hc3, h0⟩ := bindS h0
  try dsimp only at h0
  refine OpsT.cons (Does.call (d := some 11) (n := 11) (vs := [.agg (c_ApiEvent a0).toArray]) (by kernel_rfl) en11 (c11 w0 w _ _ hI hT a0 hl1 _ hc3) ?_)
  rintro e w ⟨A5, cp6, rfl, hI⟩
  refine ⟨_, rfl, ?_⟩
  refine OpsT.pures (r := []) [2] [1, 3] (S' := [(1, .pointer (some ⟨b2, 0, none⟩)), (3, .slice A5 y4.length cp6)]) (by kernel_rfl) ?_
  refine OpsT.done ?_
  refine Qn.then ?_
  obtain ⟨Z7, hle8, hr9, hI⟩ := ownS_freeze hI
  refine CodT.seq ?_
  obtain ⟨r1, h1, h0⟩ := bindS h0
  refine CodT.meet (fun a w => ∃ (x10 : Bool), x10 = r1 ∧ Fr 63 [(1, .pointer (some ⟨b2, 0, none⟩)), (3, .slice A5 y4.length cp6), (22, .bool x10)] a ∧ Inv w0 Z7 w (star (pt b2 (.cells (c_ApiEvent a0).toArray 26 (0, 0))) A)) ?_ ?_
  ·
    refine CodT.drawI (n := 11) [] (by kernel_rfl) (by kernel_rfl) hI ?_
    intro w hI
    refine GmT.p' 0 12 (.slice A5 y4.length cp6) (by kernel_rfl) (by kernel_rfl) ?_
    refine GmT.p' 1 13 (.int .i64 (y4.length : Int)) (by kernel_rfl) (by kernel_rfl) ?_
    refine GmT.p' 2 14 (.bool ((y4.length : Int) == 0)) (by kernel_rfl) (by kernel_rfl) ?_
    refine GmT.p' 3 15 (.bool ((y4.length : Int) == 0)) (by kernel_rfl) (by kernel_rfl) ?_
    by_cases hb11 : ((y4.length : Int) == 0) = true
    · rw [if_pos hb11] at h1
      refine GmT.keep [1, 3, 15] (S' := [(1, .pointer (some ⟨b2, 0, none⟩)), (3, .slice A5 y4.length cp6), (15, .bool true)]) (by (try simp only [hb11]); kernel_rfl) ?_
      refine GmT.p' 4 16 (undef) (by kernel_rfl) (by kernel_rfl) ?_
      refine GmT.p' 5 17 (undef) (by kernel_rfl) (by kernel_rfl) ?_
      refine GmT.p' 6 18 (undef) (by kernel_rfl) (by kernel_rfl) ?_
      refine GmT.p' 7 19 (undef) (by kernel_rfl) (by kernel_rfl) ?_
      refine GmT.p' 8 20 (undef) (by kernel_rfl) (by kernel_rfl) ?_
      refine GmT.p' 9 21 (undef) (by kernel_rfl) (by kernel_rfl) ?_
      refine GmT.p' 10 22 (.bool true) (by kernel_rfl) (by kernel_rfl) ?_
      refine GmT.done (by kernel_rfl) ?_
      have e := someS h1
      subst e
      exact Qn.thenJ fun a ha => ⟨true, rfl, ha.keep [1, 3, 22] (by kernel_rfl), hI⟩
    · rw [if_neg hb11] at h1
      have hb11 : ((y4.length : Int) == 0) = false := by simpa using hb11
      refine GmT.keep [1, 3, 15] (S' := [(1, .pointer (some ⟨b2, 0, none⟩)), (3, .slice A5 y4.length cp6), (15, .bool false)]) (by (try simp only [hb11]); kernel_rfl) ?_
      refine GmT.p' 4 16 (.pointer (some ⟨b2, 0, none⟩)) (by kernel_rfl) (by kernel_rfl) ?_
      refine GmT.p' 6 18 (.slice A5 y4.length cp6) (by kernel_rfl) (by kernel_rfl) ?_
      refine GmT.r (i := 5) 2 (by kernel_rfl) (by kernel_rfl) (Yl.load (d := 17) (T := 22) (v := .int .i64 a0.Kind) (by kernel_rfl) (ldB ty22 (l := c_ApiEvent a0) (o := 0) (v := .int .i64 a0.Kind) (ent_refl _) (by kernel_rfl))) hI ?_
      refine GmT.r (i := 8) 2 (by kernel_rfl) (by kernel_rfl) (Yl.load (d := 20) (T := 26) (v := .agg (c_ApiEvent a0).toArray) (by kernel_rfl) (ldBN ty26 (l := c_ApiEvent a0) (o := 0) (cs := c_ApiEvent a0) (ent_refl _) (len_ApiEvent _ hl1) (whole _ _ (len_ApiEvent _ hl1)))) hI ?_
      obtain ⟨y13, hc12, h1⟩ := bindS h1
      try dsimp only at h1
      refine GmT.o (i := 7) (by kernel_rfl) (Does.call (d := some 19) (n := 15) (vs := [.int .i64 a0.Kind, .slice A5 y4.length cp6]) (by kernel_rfl) en15 (c15 w0 w _ _ hI (hT.mono hle8) a0.Kind A5 cp6 y4 hr9 _ hc12) ?_)
      rintro e w ⟨rfl, hl14, hI⟩
      refine ⟨_, rfl, ?_⟩
      refine ⟨fun _ _ => hI, ?_⟩
      refine GmT.r (i := 9) 2 (by kernel_rfl) (by kernel_rfl) (Yl.neqS (d := 21) (T := 26) (xs := ([.int .i64 y13.Kind, .int .i64 y13.ID, .string y13.Name, .int .i64 y13.Time, .int .i64 y13.Len] : List Value) ++ (cA (Value.int .u8) y13.Sum)) (ys := ([.int .i64 a0.Kind, .int .i64 a0.ID, .string a0.Name, .int .i64 a0.Time, .int .i64 a0.Len] : List Value) ++ (cA (Value.int .u8) a0.Sum)) (r := eq_ApiEvent y13 a0) (by kernel_rfl) Go.Proofs.Try.underlying26 (by kernel_rfl) (by kernel_rfl) (.cons rfl (part1 (v := .int .i64 y13.Kind) ty22 (by kernel_rfl)) (part1 (v := .int .i64 a0.Kind) ty22 (by kernel_rfl)) (eqI Go.Proofs.Try.underlying22) (.cons rfl (part1 (v := .int .i64 y13.ID) ty3 (by kernel_rfl)) (part1 (v := .int .i64 a0.ID) ty3 (by kernel_rfl)) (eqI Go.Proofs.Try.underlying3) (.cons rfl (part1 (v := .string y13.Name) ty9 (by kernel_rfl)) (part1 (v := .string a0.Name) ty9 (by kernel_rfl)) (eqS Go.Proofs.Try.underlying9) (.cons rfl (part1 (v := .int .i64 y13.Time) ty3 (by kernel_rfl)) (part1 (v := .int .i64 a0.Time) ty3 (by kernel_rfl)) (eqI Go.Proofs.Try.underlying3) (.cons rfl (part1 (v := .int .i64 y13.Len) ty3 (by kernel_rfl)) (part1 (v := .int .i64 a0.Len) ty3 (by kernel_rfl)) (eqI Go.Proofs.Try.underlying3) (.cons rfl (partN ty24 (tail_take _ _ _ _ _ (by kernel_rfl) hl14)) (partN ty24 (tail_take _ _ _ _ _ (by kernel_rfl) hl1)) (eqAr Go.Proofs.Try.underlying24 Go.Proofs.Try.underlying5 ty5 hl14 hl1) .nil))))))) hI ?_
      refine GmT.p' 10 22 (.bool (!(eq_ApiEvent y13 a0))) (by kernel_rfl) (by kernel_rfl) ?_
      refine GmT.done (by kernel_rfl) ?_
      have e := someS h1
      subst e
      exact Qn.thenJ fun a ha => ⟨!(eq_ApiEvent y13 a0), rfl, ha.keep [1, 3, 22] (by kernel_rfl), hI⟩
  ·
    rintro a w ⟨x10, rfl, ha, hI⟩
    try dsimp only at h0
    refine CodT.of ?_ ha
    by_cases hb15 : x10 = true
    · rw [if_pos hb15] at h0
      refine CodT.yes' (b := x10) (by kernel_rfl) hb15 ?_
      refine CodT.seq ?_
      refine CodT.regionL [0] (by kernel_rfl) ?_
      refine OpsT.pures (r := []) [0] [2] (S' := [(2, .bool false)]) (by kernel_rfl) ?_
      refine OpsT.done ?_
      refine Qn.then ?_
      refine CodT.ret ?_
      refine Qn.ret_then ?_
      have hI := hI.drop
      have e := someS h0
      subst e
      refine Qn.keep [2] (S' := [(2, .bool false)]) (by kernel_rfl) ?_
      exact post_ret (v := .bool false) (fun a ha => RunRes.run (vs := [.bool false]) (.tmp (t := 2) (by kernel_rfl) .nil) ha (by kernel_rfl)) ⟨rfl, hI.weaken hle8⟩
    · rw [if_neg hb15] at h0
      refine CodT.no' (b := x10) (by kernel_rfl) (by simpa using hb15) ?_
      refine CodT.skip ?_
      refine Qn.then ?_
      refine CodT.seq ?_
      refine CodT.regionL [0] (by kernel_rfl) ?_
      refine OpsT.pures (r := []) [0] [1, 3, 4] (S' := [(1, .pointer (some ⟨b2, 0, none⟩)), (3, .slice A5 y4.length cp6), (4, .int .i64 0)]) (by kernel_rfl) ?_
      refine OpsT.done ?_
      refine Qn.then ?_
      obtain ⟨r1, h1, h0⟩ := bindS h0
      refine CodT.meet (fun a w => ∃ (x16 : Int), x16 = r1 ∧ Fr 63 [(1, .pointer (some ⟨b2, 0, none⟩)), (3, .slice A5 y4.length cp6), (4, .int .i64 x16)] a ∧ Inv w0 Z7 w (star (pt b2 (.cells (c_ApiEvent a0).toArray 26 (0, 0))) A)) ?_ ?_
      ·
        refine CodT.seq ?_
        refine CodT.regionL [0, 1, 2] (by kernel_rfl) ?_
        refine OpsT.pures (r := [1, 2]) [0] [1, 3, 4, 23] (S' := [(1, .pointer (some ⟨b2, 0, none⟩)), (3, .slice A5 y4.length cp6), (4, .int .i64 0), (23, .pointer (some ⟨b2, 0, none⟩))]) (by kernel_rfl) ?_
        refine OpsT.cons (Does.yi (Yl.load (d := 24) (T := 22) (v := .int .i64 a0.Kind) (by kernel_rfl) (ldB ty22 (l := c_ApiEvent a0) (o := 0) (v := .int .i64 a0.Kind) (ent_refl _) (by kernel_rfl))) hI ?_)
        refine OpsT.pures (r := []) [2] [1, 3, 4, 25] (S' := [(1, .pointer (some ⟨b2, 0, none⟩)), (3, .slice A5 y4.length cp6), (4, .int .i64 0), (25, .bool (a0.Kind == 1))]) (by kernel_rfl) ?_
        refine OpsT.done ?_
        refine Qn.then ?_
        by_cases hb17 : (a0.Kind == 1) = true
        · rw [if_pos hb17] at h1
          refine CodT.yes' (b := a0.Kind == 1) (by kernel_rfl) hb17 ?_
          refine CodT.regionL [0] (by kernel_rfl) ?_
          refine OpsT.pures (r := []) [0] [1, 3, 4] (S' := [(1, .pointer (some ⟨b2, 0, none⟩)), (3, .slice A5 y4.length cp6), (4, .int .i64 1)]) (by kernel_rfl) ?_
          refine OpsT.done ?_
          have e := someS h1
          subst e
          exact Qn.thenJ fun a ha => ⟨1, rfl, ha.keep [1, 3, 4] (by kernel_rfl), hI⟩
        · rw [if_neg hb17] at h1
          refine CodT.no' (b := a0.Kind == 1) (by kernel_rfl) (by simpa using hb17) ?_
          refine CodT.skip ?_
          have e := someS h1
          subst e
          exact Qn.thenJ fun a ha => ⟨0, rfl, ha.keep [1, 3, 4] (by kernel_rfl), hI⟩
      ·
        rintro a w ⟨x16, rfl, ha, hI⟩
        try dsimp only at h0
        refine CodT.of ?_ ha
        refine CodT.seq ?_
        refine CodT.regionL [0] (by kernel_rfl) ?_
        refine OpsT.pures (r := []) [0] [1, 3, 4, 5] (S' := [(1, .pointer (some ⟨b2, 0, none⟩)), (3, .slice A5 y4.length cp6), (4, .int .i64 x16), (5, .bool true)]) (by kernel_rfl) ?_
        refine OpsT.done ?_
        refine Qn.then ?_
        refine CodT.seq ?_
        refine CodT.seq ?_
        refine CodT.regionL [0, 1, 2] (by kernel_rfl) ?_
        refine OpsT.pures (r := []) [0, 1, 2] [1, 4, 5, 26, 27, 28] (S' := [(1, .pointer (some ⟨b2, 0, none⟩)), (4, .int .i64 x16), (5, .bool true), (26, .slice A5 y4.length cp6), (27, .int .i64 (y4.length : Int)), (28, .int .i64 0)]) (by kernel_rfl) ?_
        refine OpsT.done ?_
        refine Qn.then ?_
        obtain ⟨r1, h1, h0⟩ := bindS h0
        refine CodT.meet1 (fun a w => ∃ (x18 : Bool), x18 = r1 ∧ Fr 63 [(1, .pointer (some ⟨b2, 0, none⟩)), (4, .int .i64 x16), (5, .bool x18)] a ∧ Inv w0 Z7 w (star (pt b2 (.cells (c_ApiEvent a0).toArray 26 (0, 0))) A)) ?_ ?_
        ·
          refine CodT.block ?_
          refine (fun a ha => wp_loopN (fun k a w => ∃ (x19 : Bool) (x20 : Int), event_Valid.l0 y4 k x19 x20 = some r1 ∧ Fr 63 [(1, .pointer (some ⟨b2, 0, none⟩)), (4, .int .i64 x16), (5, .bool x19), (26, .slice A5 y4.length cp6), (27, .int .i64 (y4.length : Int)), (28, .int .i64 x20)] a ∧ Inv w0 Z7 w (star (pt b2 (.cells (c_ApiEvent a0).toArray 26 (0, 0))) A)) ?_ FU a w ⟨true, 0, h1, ha.keep [1, 4, 5, 26, 27, 28] (by kernel_rfl), hI⟩)
          clear h1 hI
          rintro k a w ⟨x19, x20, h1, ha, hI⟩
          rcases k with _ | k
          · cases h1
          simp only [event_Valid.l0] at h1
          refine CodT.of ?_ ha
          refine CodT.seq ?_
          refine CodT.regionL [0] (by kernel_rfl) ?_
          refine OpsT.pures (r := []) [0] [1, 4, 5, 26, 27, 28, 29] (S' := [(1, .pointer (some ⟨b2, 0, none⟩)), (4, .int .i64 x16), (5, .bool x19), (26, .slice A5 y4.length cp6), (27, .int .i64 (y4.length : Int)), (28, .int .i64 x20), (29, .bool (decide (x20 < (y4.length : Int))))]) (by kernel_rfl) ?_
          refine OpsT.done ?_
          refine Qn.then ?_
          refine CodT.seq ?_
          by_cases hb21 : (decide (x20 < (y4.length : Int))) = true
          · rw [if_pos hb21] at h1
            refine CodT.yes' (b := decide (x20 < (y4.length : Int))) (by kernel_rfl) hb21 ?_
            refine CodT.skip ?_
            refine Qn.then ?_
            obtain ⟨r2, h2, h1⟩ := bindS h1
            refine CodT.meet (fun a w => ∃ (x22 : Bool), x22 = r2 ∧ Fr 63 [(1, .pointer (some ⟨b2, 0, none⟩)), (4, .int .i64 x16), (5, .bool x22), (26, .slice A5 y4.length cp6), (27, .int .i64 (y4.length : Int)), (28, .int .i64 x20)] a ∧ Inv w0 Z7 w (star (pt b2 (.cells (c_ApiEvent a0).toArray 26 (0, 0))) A)) ?_ ?_
            ·
              refine CodT.block ?_
              refine CodT.seq ?_
              refine CodT.regionL [0, 1, 2] (by kernel_rfl) ?_
              obtain ⟨hg23, h2⟩ := guardS h2
              obtain ⟨g24, o28, hA25, hr26, hl27⟩ := RdS.get hr9 hg23.1 hg23.2
              refine OpsT.cons (Does.yi (Yl.indexSlice (d := 30) (T := 40) (cc := cp6) (k := .i64) (j := x20) (g := g24) (o := o28) (by kernel_rfl) Go.Proofs.Try.underlying40 ty43 hA25 hg23.1 hg23.2) hI ?_)
              refine OpsT.cons (Does.yi (Yl.load (d := 31) (T := 43) (v := dynV43 (gt y4 x20)) (by kernel_rfl) (ldR ty43 (v := dynV43 (gt y4 x20)) 0 (fun w hC => hr26 w0 w _ hC) (by kernel_rfl))) hI ?_)
              refine OpsT.pures (r := []) [2] [1, 4, 5, 7, 26, 27, 28] (S' := [(1, .pointer (some ⟨b2, 0, none⟩)), (4, .int .i64 x16), (5, .bool x19), (7, dynV43 (gt y4 x20)), (26, .slice A5 y4.length cp6), (27, .int .i64 (y4.length : Int)), (28, .int .i64 x20)]) (by kernel_rfl) ?_
              refine OpsT.done ?_
              refine Qn.then ?_
              refine CodT.seq ?_
              refine CodT.regionL [0, 1, 2, 3, 4, 5, 6] (by kernel_rfl) ?_
              refine OpsT.pures (r := [1, 2, 3, 4, 5, 6]) [0] [1, 4, 5, 26, 27, 28, 33] (S' := [(1, .pointer (some ⟨b2, 0, none⟩)), (4, .int .i64 x16), (5, .bool x19), (26, .slice A5 y4.length cp6), (27, .int .i64 (y4.length : Int)), (28, .int .i64 x20), (33, dynV43 (gt y4 x20))]) (by kernel_rfl) ?_
              rcases hd29 : gt y4 x20 with _ | z30 | z31 | z32
              ·
                simp only [hd29] at h2
                refine OpsT.keep [1, 4, 5, 26, 27, 28, 33] (S' := [(1, .pointer (some ⟨b2, 0, none⟩)), (4, .int .i64 x16), (5, .bool x19), (26, .slice A5 y4.length cp6), (27, .int .i64 (y4.length : Int)), (28, .int .i64 x20), (33, .nilIface)]) (by (try simp only [hd29]); kernel_rfl) ?_
                refine OpsT.pures (r := []) [1, 2, 3, 4, 5, 6] [1, 4, 5, 8, 9, 26, 27, 28] (S' := [(1, .pointer (some ⟨b2, 0, none⟩)), (4, .int .i64 x16), (5, .bool x19), (8, .string (⟨#[]⟩ : ByteArray)), (9, .bool false), (26, .slice A5 y4.length cp6), (27, .int .i64 (y4.length : Int)), (28, .int .i64 x20)]) (by kernel_rfl) ?_
                refine OpsT.done ?_
                refine Qn.then ?_
                refine CodT.seq ?_
                refine CodT.regionL [0] (by kernel_rfl) ?_
                refine OpsT.pures (r := []) [0] [1, 4, 5, 8, 26, 27, 28, 37] (S' := [(1, .pointer (some ⟨b2, 0, none⟩)), (4, .int .i64 x16), (5, .bool x19), (8, .string (⟨#[]⟩ : ByteArray)), (26, .slice A5 y4.length cp6), (27, .int .i64 (y4.length : Int)), (28, .int .i64 x20), (37, .bool false)]) (by kernel_rfl) ?_
                refine OpsT.done ?_
                refine Qn.then ?_
                refine CodT.no (by kernel_rfl) ?_
                refine CodT.skip ?_
                refine Qn.block_normal ?_
                have e := someS h2
                subst e
                exact Qn.thenJ fun a ha => ⟨x19, rfl, ha.keep [1, 4, 5, 26, 27, 28] (by kernel_rfl), hI⟩
              ·
                simp only [hd29] at h2
                refine OpsT.keep [1, 4, 5, 26, 27, 28, 33] (S' := [(1, .pointer (some ⟨b2, 0, none⟩)), (4, .int .i64 x16), (5, .bool x19), (26, .slice A5 y4.length cp6), (27, .int .i64 (y4.length : Int)), (28, .int .i64 x20), (33, .iface 53 (.int .i64 z30))]) (by (try simp only [hd29]); kernel_rfl) ?_
                refine OpsT.pures (r := []) [1, 2, 3, 4, 5, 6] [1, 4, 5, 8, 9, 26, 27, 28] (S' := [(1, .pointer (some ⟨b2, 0, none⟩)), (4, .int .i64 x16), (5, .bool x19), (8, .string (⟨#[]⟩ : ByteArray)), (9, .bool false), (26, .slice A5 y4.length cp6), (27, .int .i64 (y4.length : Int)), (28, .int .i64 x20)]) (by kernel_rfl) ?_
                refine OpsT.done ?_
                refine Qn.then ?_
                refine CodT.seq ?_
                refine CodT.regionL [0] (by kernel_rfl) ?_
                refine OpsT.pures (r := []) [0] [1, 4, 5, 8, 26, 27, 28, 37] (S' := [(1, .pointer (some ⟨b2, 0, none⟩)), (4, .int .i64 x16), (5, .bool x19), (8, .string (⟨#[]⟩ : ByteArray)), (26, .slice A5 y4.length cp6), (27, .int .i64 (y4.length : Int)), (28, .int .i64 x20), (37, .bool false)]) (by kernel_rfl) ?_
                refine OpsT.done ?_
                refine Qn.then ?_
                refine CodT.no (by kernel_rfl) ?_
                refine CodT.skip ?_
                refine Qn.block_normal ?_
                have e := someS h2
                subst e
                exact Qn.thenJ fun a ha => ⟨x19, rfl, ha.keep [1, 4, 5, 26, 27, 28] (by kernel_rfl), hI⟩
              ·
                simp only [hd29] at h2
                refine OpsT.keep [1, 4, 5, 26, 27, 28, 33] (S' := [(1, .pointer (some ⟨b2, 0, none⟩)), (4, .int .i64 x16), (5, .bool x19), (26, .slice A5 y4.length cp6), (27, .int .i64 (y4.length : Int)), (28, .int .i64 x20), (33, .iface 54 (.string z31))]) (by (try simp only [hd29]); kernel_rfl) ?_
                refine OpsT.pures (r := []) [1, 2, 3, 4, 5, 6] [1, 4, 5, 8, 9, 26, 27, 28] (S' := [(1, .pointer (some ⟨b2, 0, none⟩)), (4, .int .i64 x16), (5, .bool x19), (8, .string z31), (9, .bool true), (26, .slice A5 y4.length cp6), (27, .int .i64 (y4.length : Int)), (28, .int .i64 x20)]) (by kernel_rfl) ?_
                refine OpsT.done ?_
                refine Qn.then ?_
                refine CodT.seq ?_
                refine CodT.regionL [0] (by kernel_rfl) ?_
                refine OpsT.pures (r := []) [0] [1, 4, 5, 8, 26, 27, 28, 37] (S' := [(1, .pointer (some ⟨b2, 0, none⟩)), (4, .int .i64 x16), (5, .bool x19), (8, .string z31), (26, .slice A5 y4.length cp6), (27, .int .i64 (y4.length : Int)), (28, .int .i64 x20), (37, .bool true)]) (by kernel_rfl) ?_
                refine OpsT.done ?_
                refine Qn.then ?_
                refine CodT.yes (by kernel_rfl) ?_
                refine CodT.regionL [0, 1, 2] (by kernel_rfl) ?_
                refine OpsT.pures (r := [1, 2]) [0] [1, 4, 26, 27, 28, 38] (S' := [(1, .pointer (some ⟨b2, 0, none⟩)), (4, .int .i64 x16), (26, .slice A5 y4.length cp6), (27, .int .i64 (y4.length : Int)), (28, .int .i64 x20), (38, .string z31)]) (by kernel_rfl) ?_
                obtain ⟨y34, hc33, h2⟩ := bindS h2
                try dsimp only at h2
                refine OpsT.cons (Does.call (d := some 39) (n := 16) (vs := [.string z31]) (by kernel_rfl) en16 (c16 w0 w _ _ hI (hT.mono hle8) z31 _ hc33) ?_)
                rintro e w ⟨rfl, hI⟩
                refine ⟨_, rfl, ?_⟩
                refine OpsT.pures (r := []) [2] [1, 4, 5, 26, 27, 28] (S' := [(1, .pointer (some ⟨b2, 0, none⟩)), (4, .int .i64 x16), (5, .bool y34), (26, .slice A5 y4.length cp6), (27, .int .i64 (y4.length : Int)), (28, .int .i64 x20)]) (by kernel_rfl) ?_
                refine OpsT.done ?_
                refine Qn.block_normal ?_
                have e := someS h2
                subst e
                exact Qn.thenJ fun a ha => ⟨y34, rfl, ha.keep [1, 4, 5, 26, 27, 28] (by kernel_rfl), hI⟩
              ·
                simp only [hd29] at h2
                obtain ⟨hg35, h2⟩ := guardS h2
                refine OpsT.keep [1, 4, 5, 26, 27, 28, 33] (S' := [(1, .pointer (some ⟨b2, 0, none⟩)), (4, .int .i64 x16), (5, .bool x19), (26, .slice A5 y4.length cp6), (27, .int .i64 (y4.length : Int)), (28, .int .i64 x20), (33, .iface 60 (.agg (cA (Value.int .u8) z32).toArray))]) (by (try simp only [hd29]); kernel_rfl) ?_
                refine OpsT.pures (r := []) [1, 2, 3, 4, 5, 6] [1, 4, 5, 8, 9, 26, 27, 28] (S' := [(1, .pointer (some ⟨b2, 0, none⟩)), (4, .int .i64 x16), (5, .bool x19), (8, .string (⟨#[]⟩ : ByteArray)), (9, .bool false), (26, .slice A5 y4.length cp6), (27, .int .i64 (y4.length : Int)), (28, .int .i64 x20)]) (by kernel_rfl) ?_
                refine OpsT.done ?_
                refine Qn.then ?_
                refine CodT.seq ?_
                refine CodT.regionL [0] (by kernel_rfl) ?_
                refine OpsT.pures (r := []) [0] [1, 4, 5, 8, 26, 27, 28, 37] (S' := [(1, .pointer (some ⟨b2, 0, none⟩)), (4, .int .i64 x16), (5, .bool x19), (8, .string (⟨#[]⟩ : ByteArray)), (26, .slice A5 y4.length cp6), (27, .int .i64 (y4.length : Int)), (28, .int .i64 x20), (37, .bool false)]) (by kernel_rfl) ?_
                refine OpsT.done ?_
                refine Qn.then ?_
                refine CodT.no (by kernel_rfl) ?_
                refine CodT.skip ?_
                refine Qn.block_normal ?_
                have e := someS h2
                subst e
                exact Qn.thenJ fun a ha => ⟨x19, rfl, ha.keep [1, 4, 5, 26, 27, 28] (by kernel_rfl), hI⟩
            ·
              rintro a w ⟨x22, rfl, ha, hI⟩
              try dsimp only at h1
              refine CodT.of ?_ ha
              refine CodT.regionL [0, 1] (by kernel_rfl) ?_
              refine OpsT.pures (r := []) [0, 1] [1, 4, 5, 26, 27, 28] (S' := [(1, .pointer (some ⟨b2, 0, none⟩)), (4, .int .i64 x16), (5, .bool x22), (26, .slice A5 y4.length cp6), (27, .int .i64 (y4.length : Int)), (28, .int .i64 (wi64 (x20 + 1)))]) (by kernel_rfl) ?_
              refine OpsT.done ?_
              exact Qn.thenJ fun a ha => ⟨k, Nat.lt_succ_self k, x22, wi64 (x20 + 1), h1, ha.keep [1, 4, 5, 26, 27, 28] (by kernel_rfl), hI⟩
          · rw [if_neg hb21] at h1
            refine CodT.no' (b := decide (x20 < (y4.length : Int))) (by kernel_rfl) (by simpa using hb21) ?_
            refine CodT.exit ?_
            refine Qn.exit_then ?_
            refine Qn.exit_then ?_
            refine Qn.block ?_
            have e := someS h1
            subst e
            exact Qn.thenJ fun a ha => ⟨x19, rfl, ha.keep [1, 4, 5] (by kernel_rfl), hI⟩
        ·
          rintro a w ⟨x18, rfl, ha, hI⟩
          try dsimp only at h0
          refine Qn.of ?_ ha
          refine Qn.then ?_
          obtain ⟨r1, h1, h0⟩ := bindS h0
          refine CodT.meet (fun a w => ∃ (x36 : Bool), x36 = r1 ∧ Fr 63 [(2, .bool x36)] a ∧ Inv w0 Z7 w A) ?_ ?_
          ·
            refine CodT.regionL [0, 1, 2, 3, 4, 5, 6, 7, 8, 9, 10, 11, 12, 13, 14, 15, 16, 17, 18, 19, 20, 21, 22] (by kernel_rfl) ?_
            refine OpsT.pures (r := [2, 3, 4, 5, 6, 7, 8, 9, 10, 11, 12, 13, 14, 15, 16, 17, 18, 19, 20, 21, 22]) [0, 1] [1, 4, 42] (S' := [(1, .pointer (some ⟨b2, 0, none⟩)), (4, .int .i64 x16), (42, .bool x18)]) (by kernel_rfl) ?_
            by_cases hb37 : x18 = true
            · rw [if_pos hb37] at h1
              refine OpsT.keep [1, 4, 42] (S' := [(1, .pointer (some ⟨b2, 0, none⟩)), (4, .int .i64 x16), (42, .bool true)]) (by (try simp only [hb37]); kernel_rfl) ?_
              refine OpsT.pures (r := [3, 4, 5, 6, 7, 8, 9, 10, 11, 12, 13, 14, 15, 16, 17, 18, 19, 20, 21, 22]) [2] [1, 4, 42, 43] (S' := [(1, .pointer (some ⟨b2, 0, none⟩)), (4, .int .i64 x16), (42, .bool true), (43, .pointer (some ⟨b2, 0, none⟩))]) (by kernel_rfl) ?_
              refine OpsT.cons (Does.yi (Yl.load (d := 44) (T := 22) (v := .int .i64 a0.Kind) (by kernel_rfl) (ldB ty22 (l := c_ApiEvent a0) (o := 0) (v := .int .i64 a0.Kind) (ent_refl _) (by kernel_rfl))) hI ?_)
              refine OpsT.pures (r := [6, 7, 8, 9, 10, 11, 12, 13, 14, 15, 16, 17, 18, 19, 20, 21, 22]) [4, 5] [1, 4, 42, 46] (S' := [(1, .pointer (some ⟨b2, 0, none⟩)), (4, .int .i64 x16), (42, .bool true), (46, .bool (a0.Kind == 7))]) (by kernel_rfl) ?_
              by_cases hb38 : (a0.Kind == 7) = true
              · rw [if_pos hb38] at h1
                refine OpsT.keep [1, 4, 42, 46] (S' := [(1, .pointer (some ⟨b2, 0, none⟩)), (4, .int .i64 x16), (42, .bool true), (46, .bool true)]) (by (try simp only [hb38]); kernel_rfl) ?_
                refine OpsT.pures (r := [13, 14, 15, 16, 17, 18, 19, 20, 21, 22]) [6, 7, 8, 9, 10, 11, 12] [1, 4, 52, 53] (S' := [(1, .pointer (some ⟨b2, 0, none⟩)), (4, .int .i64 x16), (52, .bool true), (53, .pointer (some ⟨b2, 3, none⟩))]) (by kernel_rfl) ?_
                refine OpsT.cons (Does.yi (Yl.load (d := 54) (T := 3) (v := .int .i64 a0.Time) (by kernel_rfl) (ldB ty3 (l := c_ApiEvent a0) (o := 3) (v := .int .i64 a0.Time) (ent_refl _) (by kernel_rfl))) hI ?_)
                obtain ⟨y40, hc39, h1⟩ := bindS h1
                try dsimp only at h1
                refine OpsT.cons (Does.call (d := some 55) (n := 17) (vs := [.int .i64 a0.Time, .int .i64 0, .int .i64 1099511627776]) (by kernel_rfl) en17 (c17 w0 w _ _ hI (hT.mono hle8) a0.Time 0 1099511627776 _ hc39) ?_)
                rintro e w ⟨rfl, hI⟩
                refine ⟨_, rfl, ?_⟩
                refine OpsT.pures (r := [17, 18, 19, 20, 21, 22]) [15, 16] [1, 4, 57] (S' := [(1, .pointer (some ⟨b2, 0, none⟩)), (4, .int .i64 x16), (57, .bool y40)]) (by kernel_rfl) ?_
                by_cases hb41 : y40 = true
                · rw [if_pos hb41] at h1
                  refine OpsT.keep [1, 4, 57] (S' := [(1, .pointer (some ⟨b2, 0, none⟩)), (4, .int .i64 x16), (57, .bool true)]) (by (try simp only [hb41]); kernel_rfl) ?_
                  refine OpsT.pures (r := [18, 19, 20, 21, 22]) [17] [4, 57, 58] (S' := [(4, .int .i64 x16), (57, .bool true), (58, .pointer (some ⟨b2, 4, none⟩))]) (by kernel_rfl) ?_
                  refine OpsT.cons (Does.yi (Yl.load (d := 59) (T := 3) (v := .int .i64 a0.Len) (by kernel_rfl) (ldB ty3 (l := c_ApiEvent a0) (o := 4) (v := .int .i64 a0.Len) (ent_refl _) (by kernel_rfl))) hI ?_)
                  refine OpsT.pures (r := [20, 21, 22]) [19] [57, 59, 60] (S' := [(57, .bool true), (59, .int .i64 a0.Len), (60, .int .i64 x16)]) (by kernel_rfl) ?_
                  obtain ⟨y43, hc42, h1⟩ := bindS h1
                  try dsimp only at h1
                  refine OpsT.cons (Does.call (d := some 61) (n := 17) (vs := [.int .i64 a0.Len, .int .i64 x16, .int .i64 600]) (by kernel_rfl) en17 (c17 w0 w _ _ hI (hT.mono hle8) a0.Len x16 600 _ hc42) ?_)
                  rintro e w ⟨rfl, hI⟩
                  refine ⟨_, rfl, ?_⟩
                  refine OpsT.pures (r := []) [21, 22] [2] (S' := [(2, .bool y43)]) (by kernel_rfl) ?_
                  refine OpsT.done ?_
                  have hI := hI.drop
                  have e := someS h1
                  subst e
                  exact Qn.thenJ fun a ha => ⟨y43, rfl, ha.keep [2] (by kernel_rfl), hI⟩
                · rw [if_neg hb41] at h1
                  have hb41 : y40 = false := by simpa using hb41
                  refine OpsT.keep [1, 4, 57] (S' := [(1, .pointer (some ⟨b2, 0, none⟩)), (4, .int .i64 x16), (57, .bool false)]) (by (try simp only [hb41]); kernel_rfl) ?_
                  refine OpsT.pures (r := []) [17, 18, 19, 20, 21, 22] [2] (S' := [(2, .bool false)]) (by kernel_rfl) ?_
                  refine OpsT.done ?_
                  have hI := hI.drop
                  have e := someS h1
                  subst e
                  exact Qn.thenJ fun a ha => ⟨false, rfl, ha.keep [2] (by kernel_rfl), hI⟩
              · rw [if_neg hb38] at h1
                have hb38 : (a0.Kind == 7) = false := by simpa using hb38
                refine OpsT.keep [1, 4, 42, 46] (S' := [(1, .pointer (some ⟨b2, 0, none⟩)), (4, .int .i64 x16), (42, .bool true), (46, .bool false)]) (by (try simp only [hb38]); kernel_rfl) ?_
                refine OpsT.pures (r := [7, 8, 9, 10, 11, 12, 13, 14, 15, 16, 17, 18, 19, 20, 21, 22]) [6] [1, 4, 42, 46, 47] (S' := [(1, .pointer (some ⟨b2, 0, none⟩)), (4, .int .i64 x16), (42, .bool true), (46, .bool false), (47, .pointer (some ⟨b2, 1, none⟩))]) (by kernel_rfl) ?_
                refine OpsT.cons (Does.yi (Yl.load (d := 48) (T := 3) (v := .int .i64 a0.ID) (by kernel_rfl) (ldB ty3 (l := c_ApiEvent a0) (o := 1) (v := .int .i64 a0.ID) (ent_refl _) (by kernel_rfl))) hI ?_)
                obtain ⟨y45, hc44, h1⟩ := bindS h1
                try dsimp only at h1
                refine OpsT.cons (Does.call (d := some 49) (n := 17) (vs := [.int .i64 a0.ID, .int .i64 1, .int .i64 1099511627776]) (by kernel_rfl) en17 (c17 w0 w _ _ hI (hT.mono hle8) a0.ID 1 1099511627776 _ hc44) ?_)
                rintro e w ⟨rfl, hI⟩
                refine ⟨_, rfl, ?_⟩
                refine OpsT.pures (r := [12, 13, 14, 15, 16, 17, 18, 19, 20, 21, 22]) [9, 10, 11] [1, 4, 52] (S' := [(1, .pointer (some ⟨b2, 0, none⟩)), (4, .int .i64 x16), (52, .bool y45)]) (by kernel_rfl) ?_
                by_cases hb46 : y45 = true
                · rw [if_pos hb46] at h1
                  refine OpsT.keep [1, 4, 52] (S' := [(1, .pointer (some ⟨b2, 0, none⟩)), (4, .int .i64 x16), (52, .bool true)]) (by (try simp only [hb46]); kernel_rfl) ?_
                  refine OpsT.pures (r := [13, 14, 15, 16, 17, 18, 19, 20, 21, 22]) [12] [1, 4, 52, 53] (S' := [(1, .pointer (some ⟨b2, 0, none⟩)), (4, .int .i64 x16), (52, .bool true), (53, .pointer (some ⟨b2, 3, none⟩))]) (by kernel_rfl) ?_
                  refine OpsT.cons (Does.yi (Yl.load (d := 54) (T := 3) (v := .int .i64 a0.Time) (by kernel_rfl) (ldB ty3 (l := c_ApiEvent a0) (o := 3) (v := .int .i64 a0.Time) (ent_refl _) (by kernel_rfl))) hI ?_)
                  obtain ⟨y48, hc47, h1⟩ := bindS h1
                  try dsimp only at h1
                  refine OpsT.cons (Does.call (d := some 55) (n := 17) (vs := [.int .i64 a0.Time, .int .i64 0, .int .i64 1099511627776]) (by kernel_rfl) en17 (c17 w0 w _ _ hI (hT.mono hle8) a0.Time 0 1099511627776 _ hc47) ?_)
                  rintro e w ⟨rfl, hI⟩
                  refine ⟨_, rfl, ?_⟩
                  refine OpsT.pures (r := [17, 18, 19, 20, 21, 22]) [15, 16] [1, 4, 57] (S' := [(1, .pointer (some ⟨b2, 0, none⟩)), (4, .int .i64 x16), (57, .bool y48)]) (by kernel_rfl) ?_
                  by_cases hb49 : y48 = true
                  · rw [if_pos hb49] at h1
                    refine OpsT.keep [1, 4, 57] (S' := [(1, .pointer (some ⟨b2, 0, none⟩)), (4, .int .i64 x16), (57, .bool true)]) (by (try simp only [hb49]); kernel_rfl) ?_
                    refine OpsT.pures (r := [18, 19, 20, 21, 22]) [17] [4, 57, 58] (S' := [(4, .int .i64 x16), (57, .bool true), (58, .pointer (some ⟨b2, 4, none⟩))]) (by kernel_rfl) ?_
                    refine OpsT.cons (Does.yi (Yl.load (d := 59) (T := 3) (v := .int .i64 a0.Len) (by kernel_rfl) (ldB ty3 (l := c_ApiEvent a0) (o := 4) (v := .int .i64 a0.Len) (ent_refl _) (by kernel_rfl))) hI ?_)
                    refine OpsT.pures (r := [20, 21, 22]) [19] [57, 59, 60] (S' := [(57, .bool true), (59, .int .i64 a0.Len), (60, .int .i64 x16)]) (by kernel_rfl) ?_
                    obtain ⟨y51, hc50, h1⟩ := bindS h1
                    try dsimp only at h1
                    refine OpsT.cons (Does.call (d := some 61) (n := 17) (vs := [.int .i64 a0.Len, .int .i64 x16, .int .i64 600]) (by kernel_rfl) en17 (c17 w0 w _ _ hI (hT.mono hle8) a0.Len x16 600 _ hc50) ?_)
                    rintro e w ⟨rfl, hI⟩
                    refine ⟨_, rfl, ?_⟩
                    refine OpsT.pures (r := []) [21, 22] [2] (S' := [(2, .bool y51)]) (by kernel_rfl) ?_
                    refine OpsT.done ?_
                    have hI := hI.drop
                    have e := someS h1
                    subst e
                    exact Qn.thenJ fun a ha => ⟨y51, rfl, ha.keep [2] (by kernel_rfl), hI⟩
                  · rw [if_neg hb49] at h1
                    have hb49 : y48 = false := by simpa using hb49
                    refine OpsT.keep [1, 4, 57] (S' := [(1, .pointer (some ⟨b2, 0, none⟩)), (4, .int .i64 x16), (57, .bool false)]) (by (try simp only [hb49]); kernel_rfl) ?_
                    refine OpsT.pures (r := []) [17, 18, 19, 20, 21, 22] [2] (S' := [(2, .bool false)]) (by kernel_rfl) ?_
                    refine OpsT.done ?_
                    have hI := hI.drop
                    have e := someS h1
                    subst e
                    exact Qn.thenJ fun a ha => ⟨false, rfl, ha.keep [2] (by kernel_rfl), hI⟩
                · rw [if_neg hb46] at h1
                  have hb46 : y45 = false := by simpa using hb46
                  refine OpsT.keep [1, 4, 52] (S' := [(1, .pointer (some ⟨b2, 0, none⟩)), (4, .int .i64 x16), (52, .bool false)]) (by (try simp only [hb46]); kernel_rfl) ?_
                  refine OpsT.pures (r := []) [12, 13, 14, 15, 16, 17, 18, 19, 20, 21, 22] [2] (S' := [(2, .bool false)]) (by kernel_rfl) ?_
                  refine OpsT.done ?_
                  have hI := hI.drop
                  have e := someS h1
                  subst e
                  exact Qn.thenJ fun a ha => ⟨false, rfl, ha.keep [2] (by kernel_rfl), hI⟩
            · rw [if_neg hb37] at h1
              have hb37 : x18 = false := by simpa using hb37
              refine OpsT.keep [1, 4, 42] (S' := [(1, .pointer (some ⟨b2, 0, none⟩)), (4, .int .i64 x16), (42, .bool false)]) (by (try simp only [hb37]); kernel_rfl) ?_
              refine OpsT.pures (r := []) [2, 3, 4, 5, 6, 7, 8, 9, 10, 11, 12, 13, 14, 15, 16, 17, 18, 19, 20, 21, 22] [2] (S' := [(2, .bool false)]) (by kernel_rfl) ?_
              refine OpsT.done ?_
              have hI := hI.drop
              have e := someS h1
              subst e
              exact Qn.thenJ fun a ha => ⟨false, rfl, ha.keep [2] (by kernel_rfl), hI⟩
          ·
            rintro a w ⟨x36, rfl, ha, hI⟩
            try dsimp only at h0
            refine CodT.of ?_ ha
            refine CodT.ret ?_
            have e := someS h0
            subst e
            refine Qn.keep [2] (S' := [(2, .bool x36)]) (by kernel_rfl) ?_
            exact post_ret (v := .bool x36) (fun a ha => RunRes.run (vs := [.bool x36]) (.tmp (t := 2) (by kernel_rfl) .nil) ha (by kernel_rfl)) ⟨rfl, hI.weaken hle8⟩
set_option maxRecDepth 100000 in
set_option maxHeartbeats 4000000 in
/-- cenotaph/wire.Num -/
theorem c10 (w0 w : World) (Z : Hp) (A : HP) (hI : Inv w0 Z w A) (hT : Tabs Z) (a0 : Int) (r : ByteArray) (h0 : wire_Num a0 = some r) :
    Calls prog 10 #[.int .i64 a0] w (fun e w' => e = .returned (.string r) ∧ Inv w0 Z w' A) := by
  have e4 := calls_intro (R := (fun e w' => e = .returned (.string r) ∧ Inv w0 Z w' A)) (w := w) (args := [.int .i64 a0]) (fn := Go.Proofs.Try.f10) 23 Go.Proofs.Try.func10 (by rfl) Go.Proofs.Try.ntmps10 (by kernel_rfl)
  refine e4 ?_
  clear e4
  unfold wire_Num at h0
  refine CodT.seq ?_
  refine CodT.regionL [0] (by kernel_rfl) ?_
  refine OpsT.pures (r := []) [0] [0] (S' := [(0, .int .i64 a0)]) (by kernel_rfl) ?_
  refine OpsT.done ?_
  refine Qn.then ?_
  refine CodT.seq ?_
  refine CodT.regionL [0] (by kernel_rfl) ?_
  refine OpsT.pures (r := []) [0] [0, 3] (S' := [(0, .int .i64 a0), (3, .slice none 0 0)]) (by kernel_rfl) ?_
  refine OpsT.done ?_
  refine Qn.then ?_
  refine CodT.seq ?_
  refine CodT.seq ?_
  refine CodT.regionL [0, 1, 2, 3] (by kernel_rfl) ?_
  refine OpsT.pures (r := []) [0, 1, 2, 3] [0, 3] (S' := [(0, .int .i64 (if 1125899906842624 < (if 0 > a0 then 0 else a0) then 1125899906842624 else if 0 > a0 then 0 else a0)), (3, .slice none 0 0)]) (by kernel_rfl) ?_
  refine OpsT.done ?_
  refine Qn.then ?_
  obtain ⟨r1, h1, h0⟩ := bindS h0
  refine CodT.meet1 (fun a w => ∃ (x1 : Int) (x2 : (List Int)) (A3 : Option Addr) (cp4 : Nat), (x1, x2) = r1 ∧ Fr 23 [(0, .int .i64 x1), (3, .slice A3 x2.length cp4)] a ∧ Inv w0 Z w (star (ownS 5 (cI .u8) 1 A3 cp4 x2) A)) ?_ ?_
  ·
    refine CodT.block ?_
    have hI := ownS_nil (α := Int) hI 5 (cI .u8) 1
    refine (fun a ha => wp_loopN (fun k a w => ∃ (x5 : Int) (x6 : (List Int)) (A7 : Option Addr) (cp8 : Nat), wire_Num.l0 k x5 x6 = some r1 ∧ Fr 23 [(0, .int .i64 x5), (3, .slice A7 x6.length cp8)] a ∧ Inv w0 Z w (star (ownS 5 (cI .u8) 1 A7 cp8 x6) A)) ?_ FU a w ⟨if 1125899906842624 < (if 0 > a0 then 0 else a0) then 1125899906842624 else if 0 > a0 then 0 else a0, ([] : List Int), none, 0, h1, ha.keep [0, 3] (by kernel_rfl), hI⟩)
    clear h1 hI
    rintro k a w ⟨x5, x6, A7, cp8, h1, ha, hI⟩
    rcases k with _ | k
    · cases h1
    simp only [wire_Num.l0] at h1
    refine CodT.of ?_ ha
    refine CodT.seq ?_
    refine CodT.seq ?_
    refine CodT.regionL [0, 1] (by kernel_rfl) ?_
    refine OpsT.pures (r := []) [0, 1] [0, 3, 8] (S' := [(0, .int .i64 x5), (3, .slice A7 x6.length cp8), (8, .bool (decide (x5 ≥ 128)))]) (by kernel_rfl) ?_
    refine OpsT.done ?_
    refine Qn.then ?_
    by_cases hb9 : (decide (x5 ≥ 128)) = true
    · rw [if_pos hb9] at h1
      refine CodT.yes' (b := decide (x5 ≥ 128)) (by kernel_rfl) hb9 ?_
      refine CodT.skip ?_
      refine Qn.then ?_
      refine CodT.seq ?_
      refine CodT.block ?_
      refine CodT.regionL [0, 1, 2, 3, 4, 5, 6] (by kernel_rfl) ?_
      refine OpsT.pures (r := [4, 5, 6]) [0, 1, 2, 3] [0, 11, 14] (S' := [(0, .int .i64 x5), (11, .slice A7 x6.length cp8), (14, .int .u8 (bOr .u8 (wu8 x5) 128))]) (by kernel_rfl) ?_
      refine OpsT.cons (Does.buildSlice (en := (cI .u8)) (d := 15) (n := 1) (T := 37) (ps := [(0, .int .u8 (bOr .u8 (wu8 x5) 128))]) ([bOr .u8 (wu8 x5) 128] : List Int) (by kernel_rfl) Go.Proofs.Try.underlying37 ty5 (by kernel_rfl) (by kernel_rfl) (by kernel_rfl) (by kernel_rfl) (len_all (fun _ => rfl)) hI ?_)
      intro b10 w hI
      obtain ⟨hg11, h1⟩ := guardS h1
      have hI := hI.mono (pick2 _ _ _)
      refine OpsT.cons (Does.append (d := 16) (t := 37) (tx := 37) (ty := 37) (ys := x6) (zs := ([bOr .u8 (wu8 x5) 128] : List Int)) (x := .slice (some ⟨b10, 0, none⟩) (([bOr .u8 (wu8 x5) 128] : List Int).length) 1) (by kernel_rfl) Go.Proofs.Try.underlying37 ty5 (by kernel_rfl) hI (src_own Go.Proofs.Try.underlying37 (hI.mono (pick2 _ _ _)) (one_flat _ (fun _ => rfl))) (ownS_facts (hI.mono (pick2 _ _ _))).2.2 (by unfold LIM at hg11; omega) hg11 ?_)
      intro A12 cp13 w hI
      refine OpsT.pures (r := []) [6] [0, 3] (S' := [(0, .int .i64 x5), (3, .slice A12 ((x6 ++ ([bOr .u8 (wu8 x5) 128] : List Int)).length) cp13)]) (by kernel_rfl) ?_
      refine OpsT.done ?_
      refine Qn.block_normal ?_
      refine Qn.then ?_
      refine CodT.regionL [0, 1, 2] (by kernel_rfl) ?_
      refine OpsT.pures (r := []) [0, 1, 2] [0, 3] (S' := [(0, .int .i64 (bShr .i64 x5 7)), (3, .slice A12 ((x6 ++ ([bOr .u8 (wu8 x5) 128] : List Int)).length) cp13)]) (by kernel_rfl) ?_
      refine OpsT.done ?_
      have hI := hI.mono (pick2 _ _ _)
      have hI := hI.drop
      exact Qn.thenJ fun a ha => ⟨k, Nat.lt_succ_self k, bShr .i64 x5 7, x6 ++ ([bOr .u8 (wu8 x5) 128] : List Int), A12, cp13, h1, ha.keep [0, 3] (by kernel_rfl), hI⟩
    · rw [if_neg hb9] at h1
      refine CodT.no' (b := decide (x5 ≥ 128)) (by kernel_rfl) (by simpa using hb9) ?_
      refine CodT.exit ?_
      refine Qn.exit_then ?_
      refine Qn.exit_then ?_
      refine Qn.block ?_
      have e := someS h1
      subst e
      exact Qn.thenJ fun a ha => ⟨x5, x6, A7, cp8, rfl, ha.keep [0, 3] (by kernel_rfl), hI⟩
  ·
    rintro a w ⟨x1, x2, A3, cp4, rfl, ha, hI⟩
    try dsimp only at h0
    refine Qn.of ?_ ha
    refine Qn.then ?_
    refine CodT.seq ?_
    refine CodT.regionL [0, 1, 2, 3, 4, 5, 6] (by kernel_rfl) ?_
    refine OpsT.pures (r := [3, 4, 5, 6]) [0, 1, 2] [17, 19] (S' := [(17, .slice A3 x2.length cp4), (19, .int .u8 (wu8 x1))]) (by kernel_rfl) ?_
    refine OpsT.cons (Does.buildSlice (en := (cI .u8)) (d := 20) (n := 1) (T := 37) (ps := [(0, .int .u8 (wu8 x1))]) ([wu8 x1] : List Int) (by kernel_rfl) Go.Proofs.Try.underlying37 ty5 (by kernel_rfl) (by kernel_rfl) (by kernel_rfl) (by kernel_rfl) (len_all (fun _ => rfl)) hI ?_)
    intro b14 w hI
    obtain ⟨hg15, h0⟩ := guardS h0
    have hI := hI.mono (pick2 _ _ _)
    refine OpsT.cons (Does.append (d := 21) (t := 37) (tx := 37) (ty := 37) (ys := x2) (zs := ([wu8 x1] : List Int)) (x := .slice (some ⟨b14, 0, none⟩) (([wu8 x1] : List Int).length) 1) (by kernel_rfl) Go.Proofs.Try.underlying37 ty5 (by kernel_rfl) hI (src_own Go.Proofs.Try.underlying37 (hI.mono (pick2 _ _ _)) (one_flat _ (fun _ => rfl))) (ownS_facts (hI.mono (pick2 _ _ _))).2.2 (by unfold LIM at hg15; omega) hg15 ?_)
    intro A16 cp17 w hI
    refine OpsT.cons (Does.b2sOwn (d := 22) (src := 37) (dst := 9) (xs := x2 ++ ([wu8 x1] : List Int)) (by kernel_rfl) Go.Proofs.Try.underlying37 Go.Proofs.Try.underlying5 Go.Proofs.Try.underlying9 hI ?_)
    refine OpsT.pures (r := []) [6] [2] (S' := [(2, .string (strOfNums (x2 ++ ([wu8 x1] : List Int))))]) (by kernel_rfl) ?_
    refine OpsT.done ?_
    refine Qn.then ?_
    refine CodT.ret ?_
    have hI := hI.drop
    have hI := hI.drop
    have e := someS h0
    subst e
    refine Qn.keep [2] (S' := [(2, .string (strOfNums (x2 ++ ([wu8 x1] : List Int))))]) (by kernel_rfl) ?_
    exact post_ret (v := .string (strOfNums (x2 ++ ([wu8 x1] : List Int)))) (fun a ha => RunRes.run (vs := [.string (strOfNums (x2 ++ ([wu8 x1] : List Int)))]) (.tmp (t := 2) (by kernel_rfl) .nil) ha (by kernel_rfl)) ⟨rfl, hI⟩
set_option maxRecDepth 100000 in
set_option maxHeartbeats 4000000 in
/-- (cenotaph/event.number).put -/
theorem c44 (w0 w : World) (Z : Hp) (A : HP) (hI : Inv w0 Z w A) (hT : Tabs Z) (a0 : Int) (r : ByteArray) (h0 : event_number_put a0 = some r) :
    Calls prog 44 #[.int .i64 a0] w (fun e w' => e = .returned (.string r) ∧ Inv w0 Z w' A) := by
  have e4 := calls_intro (R := (fun e w' => e = .returned (.string r) ∧ Inv w0 Z w' A)) (w := w) (args := [.int .i64 a0]) (fn := Go.Proofs.Try.f44) 5 Go.Proofs.Try.func44 (by rfl) Go.Proofs.Try.ntmps44 (by kernel_rfl)
  refine e4 ?_
  clear e4
  unfold event_number_put at h0
  refine CodT.seq ?_
  refine CodT.regionL [0] (by kernel_rfl) ?_
  refine OpsT.pures (r := []) [0] [0] (S' := [(0, .int .i64 a0)]) (by kernel_rfl) ?_
  refine OpsT.done ?_
  refine Qn.then ?_
  refine CodT.seq ?_
  refine CodT.regionL [0, 1, 2] (by kernel_rfl) ?_
  refine OpsT.pures (r := [1, 2]) [0] [3] (S' := [(3, .int .i64 a0)]) (by kernel_rfl) ?_
  obtain ⟨y2, hc1, h0⟩ := bindS h0
  try dsimp only at h0
  refine OpsT.cons (Does.call (d := some 4) (n := 10) (vs := [.int .i64 a0]) (by kernel_rfl) en10 (c10 w0 w _ _ hI hT a0 _ hc1) ?_)
  rintro e w ⟨rfl, hI⟩
  refine ⟨_, rfl, ?_⟩
  refine OpsT.pures (r := []) [2] [2] (S' := [(2, .string y2)]) (by kernel_rfl) ?_
  refine OpsT.done ?_
  refine Qn.then ?_
  refine CodT.ret ?_
  have e := someS h0
  subst e
  refine Qn.keep [2] (S' := [(2, .string y2)]) (by kernel_rfl) ?_
  exact post_ret (v := .string y2) (fun a ha => RunRes.run (vs := [.string y2]) (.tmp (t := 2) (by kernel_rfl) .nil) ha (by kernel_rfl)) ⟨rfl, hI⟩
set_option maxRecDepth 100000 in
set_option maxHeartbeats 4000000 in
/-- cenotaph/wire.Text -/
theorem c62 (w0 w : World) (Z : Hp) (A : HP) (hI : Inv w0 Z w A) (hT : Tabs Z) (a0 : ByteArray) (r : ByteArray) (h0 : wire_Text a0 = some r) :
    Calls prog 62 #[.string a0] w (fun e w' => e = .returned (.string r) ∧ Inv w0 Z w' A) := by
  have e4 := calls_intro (R := (fun e w' => e = .returned (.string r) ∧ Inv w0 Z w' A)) (w := w) (args := [.string a0]) (fn := Go.Proofs.Try.f62) 8 Go.Proofs.Try.func62 (by rfl) Go.Proofs.Try.ntmps62 (by kernel_rfl)
  refine e4 ?_
  clear e4
  unfold wire_Text at h0
  refine CodT.seq ?_
  refine CodT.regionL [0] (by kernel_rfl) ?_
  refine OpsT.pures (r := []) [0] [0] (S' := [(0, .string a0)]) (by kernel_rfl) ?_
  refine OpsT.done ?_
  refine Qn.then ?_
  refine CodT.seq ?_
  refine CodT.regionL [0, 1, 2, 3, 4, 5] (by kernel_rfl) ?_
  refine OpsT.pures (r := [2, 3, 4, 5]) [0, 1] [0, 4] (S' := [(0, .string a0), (4, .int .i64 (a0.size : Int))]) (by kernel_rfl) ?_
  obtain ⟨y2, hc1, h0⟩ := bindS h0
  try dsimp only at h0
  refine OpsT.cons (Does.call (d := some 5) (n := 10) (vs := [.int .i64 (a0.size : Int)]) (by kernel_rfl) en10 (c10 w0 w _ _ hI hT (a0.size : Int) _ hc1) ?_)
  rintro e w ⟨rfl, hI⟩
  refine ⟨_, rfl, ?_⟩
  refine OpsT.pures (r := [4, 5]) [3] [5, 6] (S' := [(5, .string y2), (6, .string a0)]) (by kernel_rfl) ?_
  obtain ⟨hg3, h0⟩ := guardS h0
  refine OpsT.cons (Does.yi (Yl.cat (d := 7) (T := 9) (x := y2) (y := a0) (by kernel_rfl) hg3) hI ?_)
  refine OpsT.pures (r := []) [5] [2] (S' := [(2, .string (y2 ++ a0))]) (by kernel_rfl) ?_
  refine OpsT.done ?_
  refine Qn.then ?_
  refine CodT.ret ?_
  have e := someS h0
  subst e
  refine Qn.keep [2] (S' := [(2, .string (y2 ++ a0))]) (by kernel_rfl) ?_
  exact post_ret (v := .string (y2 ++ a0)) (fun a ha => RunRes.run (vs := [.string (y2 ++ a0)]) (.tmp (t := 2) (by kernel_rfl) .nil) ha (by kernel_rfl)) ⟨rfl, hI⟩
set_option maxRecDepth 100000 in
set_option maxHeartbeats 4000000 in
/-- (cenotaph/event.text).put -/
theorem c60 (w0 w : World) (Z : Hp) (A : HP) (hI : Inv w0 Z w A) (hT : Tabs Z) (a0 : ByteArray) (r : ByteArray) (h0 : event_text_put a0 = some r) :
    Calls prog 60 #[.string a0] w (fun e w' => e = .returned (.string r) ∧ Inv w0 Z w' A) := by
  have e4 := calls_intro (R := (fun e w' => e = .returned (.string r) ∧ Inv w0 Z w' A)) (w := w) (args := [.string a0]) (fn := Go.Proofs.Try.f60) 5 Go.Proofs.Try.func60 (by rfl) Go.Proofs.Try.ntmps60 (by kernel_rfl)
  refine e4 ?_
  clear e4
  unfold event_text_put at h0
  refine CodT.seq ?_
  refine CodT.regionL [0] (by kernel_rfl) ?_
  refine OpsT.pures (r := []) [0] [0] (S' := [(0, .string a0)]) (by kernel_rfl) ?_
  refine OpsT.done ?_
  refine Qn.then ?_
  refine CodT.seq ?_
  refine CodT.regionL [0, 1, 2] (by kernel_rfl) ?_
  refine OpsT.pures (r := [1, 2]) [0] [3] (S' := [(3, .string a0)]) (by kernel_rfl) ?_
  obtain ⟨y2, hc1, h0⟩ := bindS h0
  try dsimp only at h0
  refine OpsT.cons (Does.call (d := some 4) (n := 62) (vs := [.string a0]) (by kernel_rfl) en62 (c62 w0 w _ _ hI hT a0 _ hc1) ?_)
  rintro e w ⟨rfl, hI⟩
  refine ⟨_, rfl, ?_⟩
  refine OpsT.pures (r := []) [2] [2] (S' := [(2, .string y2)]) (by kernel_rfl) ?_
  refine OpsT.done ?_
  refine Qn.then ?_
  refine CodT.ret ?_
  have e := someS h0
  subst e
  refine Qn.keep [2] (S' := [(2, .string y2)]) (by kernel_rfl) ?_
  exact post_ret (v := .string y2) (fun a ha => RunRes.run (vs := [.string y2]) (.tmp (t := 2) (by kernel_rfl) .nil) ha (by kernel_rfl)) ⟨rfl, hI⟩
set_option maxRecDepth 100000 in
set_option maxHeartbeats 4000000 in
/-- cenotaph/wire.Sum -/
theorem c77 (w0 w : World) (Z : Hp) (A : HP) (hI : Inv w0 Z w A) (hT : Tabs Z) (a0 : (List Int)) (hl_a0 : a0.length = 32) (r : ByteArray) (h0 : wire_Sum a0 = some r) :
    Calls prog 77 #[.agg (cA (Value.int .u8) a0).toArray] w (fun e w' => e = .returned (.string r) ∧ Inv w0 Z w' A) := by
  have e4 := calls_intro (R := (fun e w' => e = .returned (.string r) ∧ Inv w0 Z w' A)) (w := w) (args := [.agg (cA (Value.int .u8) a0).toArray]) (fn := Go.Proofs.Try.f77) 5 Go.Proofs.Try.func77 (by rfl) Go.Proofs.Try.ntmps77 (by kernel_rfl)
  refine e4 ?_
  clear e4
  unfold wire_Sum at h0
  refine CodT.seq ?_
  refine CodT.regionL [0, 1] (by kernel_rfl) ?_
  refine OpsT.cons (Does.boxL (d := 1) (T := 24) (v := .agg (cA (Value.int .u8) a0).toArray) (cA (Value.int .u8) a0) (by kernel_rfl) hI (by kernel_rfl) ?_)
  intro b1 w hI
  refine OpsT.pures (r := []) [1] [1] (S' := [(1, .pointer (some ⟨b1, 0, none⟩))]) (by kernel_rfl) ?_
  refine OpsT.done ?_
  refine Qn.then ?_
  refine CodT.seq ?_
  refine CodT.regionL [0, 1, 2] (by kernel_rfl) ?_
  refine OpsT.pures (r := [1, 2]) [0] [3] (S' := [(3, .slice (some ⟨b1, 0, none⟩) 32 32)]) (by kernel_rfl) ?_
  refine OpsT.cons (Does.yi (Yl.b2sV (d := 4) (src := 37) (dst := 9) (g := b1) (o := 0) (c := 32) (n := 32) (xs := a0) (by kernel_rfl) Go.Proofs.Try.underlying37 Go.Proofs.Try.underlying5 Go.Proofs.Try.underlying9 hl_a0 (fun w hC => range_at (hC.mono (ent_refl _)).block (fun j v hv => by simpa using hv))) hI ?_)
  refine OpsT.pures (r := []) [2] [2] (S' := [(2, .string (strOfNums a0))]) (by kernel_rfl) ?_
  refine OpsT.done ?_
  refine Qn.then ?_
  refine CodT.ret ?_
  have hI := hI.drop
  have e := someS h0
  subst e
  refine Qn.keep [2] (S' := [(2, .string (strOfNums a0))]) (by kernel_rfl) ?_
  exact post_ret (v := .string (strOfNums a0)) (fun a ha => RunRes.run (vs := [.string (strOfNums a0)]) (.tmp (t := 2) (by kernel_rfl) .nil) ha (by kernel_rfl)) ⟨rfl, hI⟩
set_option maxRecDepth 100000 in
set_option maxHeartbeats 4000000 in
/-- (cenotaph/event.sum).put -/
theorem c75 (w0 w : World) (Z : Hp) (A : HP) (hI : Inv w0 Z w A) (hT : Tabs Z) (a0 : (List Int)) (hl_a0 : a0.length = 32) (r : ByteArray) (h0 : event_sum_put a0 = some r) :
    Calls prog 75 #[.agg (cA (Value.int .u8) a0).toArray] w (fun e w' => e = .returned (.string r) ∧ Inv w0 Z w' A) := by
  have e4 := calls_intro (R := (fun e w' => e = .returned (.string r) ∧ Inv w0 Z w' A)) (w := w) (args := [.agg (cA (Value.int .u8) a0).toArray]) (fn := Go.Proofs.Try.f75) 5 Go.Proofs.Try.func75 (by rfl) Go.Proofs.Try.ntmps75 (by kernel_rfl)
  refine e4 ?_
  clear e4
  unfold event_sum_put at h0
  refine CodT.seq ?_
  refine CodT.regionL [0, 1] (by kernel_rfl) ?_
  refine OpsT.cons (Does.boxL (d := 1) (T := 60) (v := .agg (cA (Value.int .u8) a0).toArray) (cA (Value.int .u8) a0) (by kernel_rfl) hI (by kernel_rfl) ?_)
  intro b1 w hI
  refine OpsT.pures (r := []) [1] [1] (S' := [(1, .pointer (some ⟨b1, 0, none⟩))]) (by kernel_rfl) ?_
  refine OpsT.done ?_
  refine Qn.then ?_
  refine CodT.seq ?_
  refine CodT.regionL [0, 1, 2] (by kernel_rfl) ?_
  refine OpsT.cons (Does.yi (Yl.load (d := 3) (T := 60) (v := .agg (cA (Value.int .u8) a0).toArray) (by kernel_rfl) (ldBN ty60 (l := cA (Value.int .u8) a0) (o := 0) (cs := cA (Value.int .u8) a0) (ent_refl _) ((cA_length _ _).trans hl_a0) (whole _ _ ((cA_length _ _).trans hl_a0)))) hI ?_)
  obtain ⟨y3, hc2, h0⟩ := bindS h0
  try dsimp only at h0
  refine OpsT.cons (Does.call (d := some 4) (n := 77) (vs := [.agg (cA (Value.int .u8) a0).toArray]) (by kernel_rfl) en77 (c77 w0 w _ _ hI hT a0 hl_a0 _ hc2) ?_)
  rintro e w ⟨rfl, hI⟩
  refine ⟨_, rfl, ?_⟩
  refine OpsT.pures (r := []) [2] [2] (S' := [(2, .string y3)]) (by kernel_rfl) ?_
  refine OpsT.done ?_
  refine Qn.then ?_
  refine CodT.ret ?_
  have hI := hI.drop
  have e := someS h0
  subst e
  refine Qn.keep [2] (S' := [(2, .string y3)]) (by kernel_rfl) ?_
  exact post_ret (v := .string y3) (fun a ha => RunRes.run (vs := [.string y3]) (.tmp (t := 2) (by kernel_rfl) .nil) ha (by kernel_rfl)) ⟨rfl, hI⟩
set_option maxRecDepth 100000 in
set_option maxHeartbeats 4000000 in
/-- cenotaph/event.Put -/
theorem c5 (w0 w : World) (Z : Hp) (A : HP) (hI : Inv w0 Z w A) (hT : Tabs Z) (a0 : ApiEvent) (hl1 : a0.Sum.length = 32) (r : (ByteArray × Bool)) (h0 : event_Put a0 = some r) :
    Calls prog 5 #[.agg (c_ApiEvent a0).toArray] w (fun e w' => e = .returned (.tuple #[.string r.1, .bool r.2]) ∧ Inv w0 Z w' A) := by
  have e4 := calls_intro (R := (fun e w' => e = .returned (.tuple #[.string r.1, .bool r.2]) ∧ Inv w0 Z w' A)) (w := w) (args := [.agg (c_ApiEvent a0).toArray]) (fn := Go.Proofs.Try.f5) 26 Go.Proofs.Try.func5 (by rfl) Go.Proofs.Try.ntmps5 (by kernel_rfl)
  refine e4 ?_
  clear e4
  unfold event_Put at h0
  refine CodT.seq ?_
  refine CodT.regionL [0, 1, 2] (by kernel_rfl) ?_
  refine OpsT.cons (Does.boxL (d := 1) (T := 26) (v := .agg (c_ApiEvent a0).toArray) (c_ApiEvent a0) (by kernel_rfl) hI (by kernel_rfl) ?_)
  intro b2 w hI
  refine OpsT.pures (r := []) [1, 2] [1] (S' := [(1, .pointer (some ⟨b2, 0, none⟩))]) (by kernel_rfl) ?_
  refine OpsT.done ?_
  refine Qn.then ?_
  refine CodT.seq ?_
  refine CodT.seq ?_
  refine CodT.regionL [0, 1, 2] (by kernel_rfl) ?_
  refine OpsT.cons (Does.yi (Yl.load (d := 7) (T := 26) (v := .agg (c_ApiEvent a0).toArray) (by kernel_rfl) (ldBN ty26 (l := c_ApiEvent a0) (o := 0) (cs := c_ApiEvent a0) (ent_refl _) (len_ApiEvent _ hl1) (whole _ _ (len_ApiEvent _ hl1)))) hI ?_)
  obtain ⟨y4, hc3, h0⟩ := bindS h0
  try dsimp only at h0
  refine OpsT.cons (Does.call (d := some 8) (n := 9) (vs := [.agg (c_ApiEvent a0).toArray]) (by kernel_rfl) en9 (c9 w0 w _ _ hI hT a0 hl1 _ hc3) ?_)
  rintro e w ⟨rfl, hI⟩
  refine ⟨_, rfl, ?_⟩
  refine OpsT.pures (r := []) [2] [1, 9] (S' := [(1, .pointer (some ⟨b2, 0, none⟩)), (9, .bool (!y4))]) (by kernel_rfl) ?_
  refine OpsT.done ?_
  refine Qn.then ?_
  by_cases hb5 : (!y4) = true
  · rw [if_pos hb5] at h0
    refine CodT.yes' (b := !y4) (by kernel_rfl) hb5 ?_
    refine CodT.seq ?_
    refine CodT.regionL [0, 1] (by kernel_rfl) ?_
    refine OpsT.pures (r := []) [0, 1] [2, 3] (S' := [(2, .string (⟨#[]⟩ : ByteArray)), (3, .bool false)]) (by kernel_rfl) ?_
    refine OpsT.done ?_
    refine Qn.then ?_
    refine CodT.ret ?_
    refine Qn.ret_then ?_
    have hI := hI.drop
    have e := someS h0
    subst e
    refine Qn.keep [2, 3] (S' := [(2, .string (⟨#[]⟩ : ByteArray)), (3, .bool false)]) (by kernel_rfl) ?_
    exact post_ret (v := .tuple #[.string (⟨#[]⟩ : ByteArray), .bool false]) (fun a ha => RunRes.run (vs := [.string (⟨#[]⟩ : ByteArray), .bool false]) (.tmp (t := 2) (by kernel_rfl) (.tmp (t := 3) (by kernel_rfl) .nil)) ha (by kernel_rfl)) ⟨rfl, hI⟩
  · rw [if_neg hb5] at h0
    refine CodT.no' (b := !y4) (by kernel_rfl) (by simpa using hb5) ?_
    refine CodT.skip ?_
    refine Qn.then ?_
    refine CodT.seq ?_
    refine CodT.regionL [0, 1, 2, 3] (by kernel_rfl) ?_
    refine OpsT.pures (r := [1, 2, 3]) [0] [1, 10] (S' := [(1, .pointer (some ⟨b2, 0, none⟩)), (10, .pointer (some ⟨b2, 0, none⟩))]) (by kernel_rfl) ?_
    refine OpsT.cons (Does.yi (Yl.load (d := 11) (T := 22) (v := .int .i64 a0.Kind) (by kernel_rfl) (ldB ty22 (l := c_ApiEvent a0) (o := 0) (v := .int .i64 a0.Kind) (ent_refl _) (by kernel_rfl))) hI ?_)
    obtain ⟨y7, hc6, h0⟩ := bindS h0
    try dsimp only at h0
    refine OpsT.cons (Does.call (d := some 12) (n := 10) (vs := [.int .i64 a0.Kind]) (by kernel_rfl) en10 (c10 w0 w _ _ hI hT a0.Kind _ hc6) ?_)
    rintro e w ⟨rfl, hI⟩
    refine ⟨_, rfl, ?_⟩
    refine OpsT.pures (r := []) [3] [1, 4] (S' := [(1, .pointer (some ⟨b2, 0, none⟩)), (4, .string y7)]) (by kernel_rfl) ?_
    refine OpsT.done ?_
    refine Qn.then ?_
    refine CodT.seq ?_
    refine CodT.seq ?_
    refine CodT.regionL [0, 1, 2, 3] (by kernel_rfl) ?_
    refine OpsT.cons (Does.yi (Yl.load (d := 13) (T := 26) (v := .agg (c_ApiEvent a0).toArray) (by kernel_rfl) (ldBN ty26 (l := c_ApiEvent a0) (o := 0) (cs := c_ApiEvent a0) (ent_refl _) (len_ApiEvent _ hl1) (whole _ _ (len_ApiEvent _ hl1)))) hI ?_)
    obtain ⟨y9, hc8, h0⟩ := bindS h0
    try dsimp only at h0
    refine OpsT.cons (Does.call (d := some 14) (n := 11) (vs := [.agg (c_ApiEvent a0).toArray]) (by kernel_rfl) en11 (c11 w0 w _ _ hI hT a0 hl1 _ hc8) ?_)
    rintro e w ⟨A10, cp11, rfl, hI⟩
    refine ⟨_, rfl, ?_⟩
    refine OpsT.pures (r := []) [2, 3] [4, 14, 15, 16] (S' := [(4, .string y7), (14, .slice A10 y9.length cp11), (15, .int .i64 (y9.length : Int)), (16, .int .i64 0)]) (by kernel_rfl) ?_
    refine OpsT.done ?_
    refine Qn.then ?_
    obtain ⟨r1, h1, h0⟩ := bindS h0
    refine CodT.meet1 (fun a w => ∃ (x12 : ByteArray), x12 = r1 ∧ Fr 26 [(4, .string x12)] a ∧ Inv w0 Z w A) ?_ ?_
    ·
      refine CodT.block ?_
      have hI := hI.mono (pick2 _ _ _)
      have hI := hI.drop
      refine (fun a ha => wp_loopN (fun k a w => ∃ (x13 : ByteArray) (x14 : Int), event_Put.l0 y9 k x13 x14 = some r1 ∧ Fr 26 [(4, .string x13), (14, .slice A10 y9.length cp11), (15, .int .i64 (y9.length : Int)), (16, .int .i64 x14)] a ∧ Inv w0 Z w (star (ownS 43 cD43 1 A10 cp11 y9) A)) ?_ FU a w ⟨y7, 0, h1, ha.keep [4, 14, 15, 16] (by kernel_rfl), hI⟩)
      clear h1 hI
      rintro k a w ⟨x13, x14, h1, ha, hI⟩
      rcases k with _ | k
      · cases h1
      simp only [event_Put.l0] at h1
      refine CodT.of ?_ ha
      refine CodT.seq ?_
      refine CodT.regionL [0] (by kernel_rfl) ?_
      refine OpsT.pures (r := []) [0] [4, 14, 15, 16, 17] (S' := [(4, .string x13), (14, .slice A10 y9.length cp11), (15, .int .i64 (y9.length : Int)), (16, .int .i64 x14), (17, .bool (decide (x14 < (y9.length : Int))))]) (by kernel_rfl) ?_
      refine OpsT.done ?_
      refine Qn.then ?_
      refine CodT.seq ?_
      by_cases hb15 : (decide (x14 < (y9.length : Int))) = true
      · rw [if_pos hb15] at h1
        refine CodT.yes' (b := decide (x14 < (y9.length : Int))) (by kernel_rfl) hb15 ?_
        refine CodT.skip ?_
        refine Qn.then ?_
        obtain ⟨r2, h2, h1⟩ := bindS h1
        refine CodT.meet (fun a w => ∃ (x16 : ByteArray), x16 = r2 ∧ Fr 26 [(4, .string x16), (14, .slice A10 y9.length cp11), (15, .int .i64 (y9.length : Int)), (16, .int .i64 x14)] a ∧ Inv w0 Z w (star (ownS 43 cD43 1 A10 cp11 y9) A)) ?_ ?_
        ·
          refine CodT.block ?_
          refine CodT.seq ?_
          refine CodT.regionL [0, 1, 2] (by kernel_rfl) ?_
          obtain ⟨hg17, h2⟩ := guardS h2
          obtain ⟨g18, hA19, hr20, hl21⟩ := ownS_get hI hg17.1 hg17.2
          refine OpsT.cons (Does.yi (Yl.indexSlice (d := 18) (T := 40) (cc := cp11) (k := .i64) (j := x14) (g := g18) (o := 0) (by kernel_rfl) Go.Proofs.Try.underlying40 ty43 hA19 hg17.1 hg17.2) hI ?_)
          refine OpsT.cons (Does.yi (Yl.load (d := 19) (T := 43) (v := dynV43 (gt y9 x14)) (by kernel_rfl) (ldR ty43 (v := dynV43 (gt y9 x14)) 0 (fun w hC => hr20 w0 w _ hC) (by kernel_rfl))) hI ?_)
          refine OpsT.pures (r := []) [2] [4, 6, 14, 15, 16] (S' := [(4, .string x13), (6, dynV43 (gt y9 x14)), (14, .slice A10 y9.length cp11), (15, .int .i64 (y9.length : Int)), (16, .int .i64 x14)]) (by kernel_rfl) ?_
          refine OpsT.done ?_
          refine Qn.then ?_
          refine CodT.regionL [0, 1, 2, 3, 4] (by kernel_rfl) ?_
          refine OpsT.pures (r := [2, 3, 4]) [0, 1] [14, 15, 16, 20, 21] (S' := [(14, .slice A10 y9.length cp11), (15, .int .i64 (y9.length : Int)), (16, .int .i64 x14), (20, .string x13), (21, dynV43 (gt y9 x14))]) (by kernel_rfl) ?_
          rcases hd22 : gt y9 x14 with _ | z23 | z24 | z25
          ·
            simp only [hd22] at h2
            all_goals cases h2
          ·
            simp only [hd22] at h2
            refine OpsT.keep [14, 15, 16, 20, 21] (S' := [(14, .slice A10 y9.length cp11), (15, .int .i64 (y9.length : Int)), (16, .int .i64 x14), (20, .string x13), (21, .iface 53 (.int .i64 z23))]) (by (try simp only [hd22]); kernel_rfl) ?_
            obtain ⟨y27, hc26, h2⟩ := bindS h2
            try dsimp only at h2
            refine OpsT.cons (Does.invoke (nm := "cenotaph/event.put") (u := .iface 53 (.int .i64 z23)) (d := some 22) (n := 44) (vs := []) (by kernel_rfl) [.int .i64 z23] (fun _ => by kernel_rfl) (c44 w0 w _ _ hI hT z23 _ hc26) ?_)
            rintro e w ⟨rfl, hI⟩
            refine ⟨_, rfl, ?_⟩
            obtain ⟨hg28, h2⟩ := guardS h2
            refine OpsT.cons (Does.yi (Yl.cat (d := 23) (T := 9) (x := x13) (y := y27) (by kernel_rfl) hg28) hI ?_)
            refine OpsT.pures (r := []) [4] [4, 14, 15, 16] (S' := [(4, .string (x13 ++ y27)), (14, .slice A10 y9.length cp11), (15, .int .i64 (y9.length : Int)), (16, .int .i64 x14)]) (by kernel_rfl) ?_
            refine OpsT.done ?_
            refine Qn.block_normal ?_
            have e := someS h2
            subst e
            exact Qn.thenJ fun a ha => ⟨x13 ++ y27, rfl, ha.keep [4, 14, 15, 16] (by kernel_rfl), hI⟩
          ·
            simp only [hd22] at h2
            refine OpsT.keep [14, 15, 16, 20, 21] (S' := [(14, .slice A10 y9.length cp11), (15, .int .i64 (y9.length : Int)), (16, .int .i64 x14), (20, .string x13), (21, .iface 54 (.string z24))]) (by (try simp only [hd22]); kernel_rfl) ?_
            obtain ⟨y30, hc29, h2⟩ := bindS h2
            try dsimp only at h2
            refine OpsT.cons (Does.invoke (nm := "cenotaph/event.put") (u := .iface 54 (.string z24)) (d := some 22) (n := 60) (vs := []) (by kernel_rfl) [.string z24] (fun _ => by kernel_rfl) (c60 w0 w _ _ hI hT z24 _ hc29) ?_)
            rintro e w ⟨rfl, hI⟩
            refine ⟨_, rfl, ?_⟩
            obtain ⟨hg31, h2⟩ := guardS h2
            refine OpsT.cons (Does.yi (Yl.cat (d := 23) (T := 9) (x := x13) (y := y30) (by kernel_rfl) hg31) hI ?_)
            refine OpsT.pures (r := []) [4] [4, 14, 15, 16] (S' := [(4, .string (x13 ++ y30)), (14, .slice A10 y9.length cp11), (15, .int .i64 (y9.length : Int)), (16, .int .i64 x14)]) (by kernel_rfl) ?_
            refine OpsT.done ?_
            refine Qn.block_normal ?_
            have e := someS h2
            subst e
            exact Qn.thenJ fun a ha => ⟨x13 ++ y30, rfl, ha.keep [4, 14, 15, 16] (by kernel_rfl), hI⟩
          ·
            simp only [hd22] at h2
            obtain ⟨hg32, h2⟩ := guardS h2
            refine OpsT.keep [14, 15, 16, 20, 21] (S' := [(14, .slice A10 y9.length cp11), (15, .int .i64 (y9.length : Int)), (16, .int .i64 x14), (20, .string x13), (21, .iface 60 (.agg (cA (Value.int .u8) z25).toArray))]) (by (try simp only [hd22]); kernel_rfl) ?_
            obtain ⟨y34, hc33, h2⟩ := bindS h2
            try dsimp only at h2
            refine OpsT.cons (Does.invoke (nm := "cenotaph/event.put") (u := .iface 60 (.agg (cA (Value.int .u8) z25).toArray)) (d := some 22) (n := 75) (vs := []) (by kernel_rfl) [.agg (cA (Value.int .u8) z25).toArray] (fun _ => by kernel_rfl) (c75 w0 w _ _ hI hT z25 hg32 _ hc33) ?_)
            rintro e w ⟨rfl, hI⟩
            refine ⟨_, rfl, ?_⟩
            obtain ⟨hg35, h2⟩ := guardS h2
            refine OpsT.cons (Does.yi (Yl.cat (d := 23) (T := 9) (x := x13) (y := y34) (by kernel_rfl) hg35) hI ?_)
            refine OpsT.pures (r := []) [4] [4, 14, 15, 16] (S' := [(4, .string (x13 ++ y34)), (14, .slice A10 y9.length cp11), (15, .int .i64 (y9.length : Int)), (16, .int .i64 x14)]) (by kernel_rfl) ?_
            refine OpsT.done ?_
            refine Qn.block_normal ?_
            have e := someS h2
            subst e
            exact Qn.thenJ fun a ha => ⟨x13 ++ y34, rfl, ha.keep [4, 14, 15, 16] (by kernel_rfl), hI⟩
        ·
          rintro a w ⟨x16, rfl, ha, hI⟩
          try dsimp only at h1
          refine CodT.of ?_ ha
          refine CodT.regionL [0, 1] (by kernel_rfl) ?_
          refine OpsT.pures (r := []) [0, 1] [4, 14, 15, 16] (S' := [(4, .string x16), (14, .slice A10 y9.length cp11), (15, .int .i64 (y9.length : Int)), (16, .int .i64 (wi64 (x14 + 1)))]) (by kernel_rfl) ?_
          refine OpsT.done ?_
          exact Qn.thenJ fun a ha => ⟨k, Nat.lt_succ_self k, x16, wi64 (x14 + 1), h1, ha.keep [4, 14, 15, 16] (by kernel_rfl), hI⟩
      · rw [if_neg hb15] at h1
        refine CodT.no' (b := decide (x14 < (y9.length : Int))) (by kernel_rfl) (by simpa using hb15) ?_
        refine CodT.exit ?_
        refine Qn.exit_then ?_
        refine Qn.exit_then ?_
        refine Qn.block ?_
        have hI := hI.drop
        have e := someS h1
        subst e
        exact Qn.thenJ fun a ha => ⟨x13, rfl, ha.keep [4] (by kernel_rfl), hI⟩
    ·
      rintro a w ⟨x12, rfl, ha, hI⟩
      try dsimp only at h0
      refine Qn.of ?_ ha
      refine Qn.then ?_
      refine CodT.seq ?_
      refine CodT.regionL [0, 1, 2] (by kernel_rfl) ?_
      refine OpsT.pures (r := []) [0, 1, 2] [2, 3] (S' := [(2, .string x12), (3, .bool true)]) (by kernel_rfl) ?_
      refine OpsT.done ?_
      refine Qn.then ?_
      refine CodT.ret ?_
      have e := someS h0
      subst e
      refine Qn.keep [2, 3] (S' := [(2, .string x12), (3, .bool true)]) (by kernel_rfl) ?_
      exact post_ret (v := .tuple #[.string x12, .bool true]) (fun a ha => RunRes.run (vs := [.string x12, .bool true]) (.tmp (t := 2) (by kernel_rfl) (.tmp (t := 3) (by kernel_rfl) .nil)) ha (by kernel_rfl)) ⟨rfl, hI⟩
set_option maxRecDepth 100000 in
set_option maxHeartbeats 4000000 in
/-- cenotaph/wire.num -/
theorem c18 (w0 w : World) (Z : Hp) (A : HP) (hI : Inv w0 Z w A) (hT : Tabs Z) (a0 : ByteArray) (r : WireGot_int) (h0 : wire_num a0 = some r) :
    Calls prog 18 #[.string a0] w (fun e w' => e = .returned (.agg (c_WireGot_int r).toArray) ∧ Inv w0 Z w' A) := by
  have e4 := calls_intro (R := (fun e w' => e = .returned (.agg (c_WireGot_int r).toArray) ∧ Inv w0 Z w' A)) (w := w) (args := [.string a0]) (fn := Go.Proofs.Try.f18) 45 Go.Proofs.Try.func18 (by rfl) Go.Proofs.Try.ntmps18 (by kernel_rfl)
  refine e4 ?_
  clear e4
  unfold wire_num at h0
  refine CodT.seq ?_
  refine CodT.regionL [0] (by kernel_rfl) ?_
  refine OpsT.cons (Does.allocL (d := 2) (T := 62) (c_WireGot_int (WireGot_int.mk 0 (⟨#[]⟩ : ByteArray) false)) (by kernel_rfl) ty62 hI (by kernel_rfl) ?_)
  intro b1 w hI
  refine OpsT.done ?_
  refine Qn.then ?_
  refine CodT.seq ?_
  refine CodT.regionL [0] (by kernel_rfl) ?_
  refine OpsT.pures (r := []) [0] [0, 2, 3] (S' := [(0, .string a0), (2, .pointer (some ⟨b1, 0, none⟩)), (3, .int .i64 0)]) (by kernel_rfl) ?_
  refine OpsT.done ?_
  refine Qn.then ?_
  refine CodT.seq ?_
  refine CodT.seq ?_
  refine CodT.regionL [0, 1, 2, 3] (by kernel_rfl) ?_
  refine OpsT.pures (r := []) [0, 1, 2, 3] [0, 2, 3, 7, 8] (S' := [(0, .string a0), (2, .pointer (some ⟨b1, 0, none⟩)), (3, .int .i64 0), (7, .int .i64 (if 8 < (a0.size : Int) then 8 else (a0.size : Int))), (8, .int .i64 0)]) (by kernel_rfl) ?_
  refine OpsT.done ?_
  refine Qn.then ?_
  obtain ⟨r1, h1, h0⟩ := bindS h0
  refine CodT.meet1 (fun a w => .inr () = r1 ∧ Fr 45 [(2, .pointer (some ⟨b1, 0, none⟩))] a ∧ Inv w0 Z w (star (pt b1 (.cells (c_WireGot_int (WireGot_int.mk 0 (⟨#[]⟩ : ByteArray) false)).toArray 62 (0, 0))) A)) ?_ ?_
  ·
    refine CodT.block ?_
    refine (fun a ha => wp_loopN (fun k a w => ∃ (x2 : Int) (x3 : Int), wire_num.l0 a0 k x2 x3 = some r1 ∧ Fr 45 [(0, .string a0), (2, .pointer (some ⟨b1, 0, none⟩)), (3, .int .i64 x2), (7, .int .i64 (if 8 < (a0.size : Int) then 8 else (a0.size : Int))), (8, .int .i64 x3)] a ∧ Inv w0 Z w (star (pt b1 (.cells (c_WireGot_int (WireGot_int.mk 0 (⟨#[]⟩ : ByteArray) false)).toArray 62 (0, 0))) A)) ?_ FU a w ⟨0, 0, h1, ha.keep [0, 2, 3, 7, 8] (by kernel_rfl), hI⟩)
    clear h1 hI
    rintro k a w ⟨x2, x3, h1, ha, hI⟩
    rcases k with _ | k
    · cases h1
    simp only [wire_num.l0] at h1
    refine CodT.of ?_ ha
    refine CodT.seq ?_
    refine CodT.regionL [0] (by kernel_rfl) ?_
    refine OpsT.pures (r := []) [0] [0, 2, 3, 7, 8, 9] (S' := [(0, .string a0), (2, .pointer (some ⟨b1, 0, none⟩)), (3, .int .i64 x2), (7, .int .i64 (if 8 < (a0.size : Int) then 8 else (a0.size : Int))), (8, .int .i64 x3), (9, .bool (decide (x3 < (if 8 < (a0.size : Int) then 8 else (a0.size : Int)))))]) (by kernel_rfl) ?_
    refine OpsT.done ?_
    refine Qn.then ?_
    refine CodT.seq ?_
    by_cases hb4 : (decide (x3 < (if 8 < (a0.size : Int) then 8 else (a0.size : Int)))) = true
    · rw [if_pos hb4] at h1
      refine CodT.yes' (b := decide (x3 < (if 8 < (a0.size : Int) then 8 else (a0.size : Int)))) (by kernel_rfl) hb4 ?_
      refine CodT.skip ?_
      refine Qn.then ?_
      refine CodT.seq ?_
      refine CodT.block ?_
      refine CodT.seq ?_
      refine CodT.regionL [0, 1] (by kernel_rfl) ?_
      refine OpsT.pures (r := []) [0, 1] [0, 2, 3, 4, 7, 8] (S' := [(0, .string a0), (2, .pointer (some ⟨b1, 0, none⟩)), (3, .int .i64 x2), (4, .int .i64 x3), (7, .int .i64 (if 8 < (a0.size : Int) then 8 else (a0.size : Int))), (8, .int .i64 x3)]) (by kernel_rfl) ?_
      refine OpsT.done ?_
      refine Qn.then ?_
      refine CodT.seq ?_
      refine CodT.regionL [0, 1, 2, 3, 4, 5, 6, 7, 8, 9, 10] (by kernel_rfl) ?_
      refine OpsT.pures (r := [3, 4, 5, 6, 7, 8, 9, 10]) [0, 1, 2] [0, 2, 4, 7, 8, 11, 12, 13] (S' := [(0, .string a0), (2, .pointer (some ⟨b1, 0, none⟩)), (4, .int .i64 x3), (7, .int .i64 (if 8 < (a0.size : Int) then 8 else (a0.size : Int))), (8, .int .i64 x3), (11, .int .i64 x2), (12, .string a0), (13, .int .i64 x3)]) (by kernel_rfl) ?_
      obtain ⟨hg5, h1⟩ := guardS h1
      refine OpsT.cons (Does.yi (Yl.indexStr (d := 14) (T := 9) (k := .i64) (j := x3) (s := a0) (by kernel_rfl) Go.Proofs.Try.underlying9 hg5.1 hg5.2) hI ?_)
      refine OpsT.pures (r := [8, 9, 10]) [4, 5, 6, 7] [0, 2, 4, 7, 8, 11, 16, 18] (S' := [(0, .string a0), (2, .pointer (some ⟨b1, 0, none⟩)), (4, .int .i64 x3), (7, .int .i64 (if 8 < (a0.size : Int) then 8 else (a0.size : Int))), (8, .int .i64 x3), (11, .int .i64 x2), (16, .int .i64 (wi64 (bAnd .u8 (bt a0 x3) 127))), (18, .int .i64 (wi64 (7 * x3)))]) (by kernel_rfl) ?_
      obtain ⟨hg6, h1⟩ := guardS h1
      refine OpsT.cons (Does.yi (Yl.shl (d := 19) (T := 3) (k := .i64) (k' := .i64) (x := wi64 (bAnd .u8 (bt a0 x3) 127)) (y := wi64 (7 * x3)) (by kernel_rfl) hg6) hI ?_)
      refine OpsT.pures (r := []) [9, 10] [0, 2, 3, 4, 7, 8] (S' := [(0, .string a0), (2, .pointer (some ⟨b1, 0, none⟩)), (3, .int .i64 (bOr .i64 x2 (bShl .i64 (wi64 (bAnd .u8 (bt a0 x3) 127)) (wi64 (7 * x3))))), (4, .int .i64 x3), (7, .int .i64 (if 8 < (a0.size : Int) then 8 else (a0.size : Int))), (8, .int .i64 x3)]) (by kernel_rfl) ?_
      refine OpsT.done ?_
      refine Qn.then ?_
      refine CodT.seq ?_
      refine CodT.regionL [0, 1, 2, 3] (by kernel_rfl) ?_
      refine OpsT.pures (r := [2, 3]) [0, 1] [0, 2, 3, 4, 7, 8, 21, 22] (S' := [(0, .string a0), (2, .pointer (some ⟨b1, 0, none⟩)), (3, .int .i64 (bOr .i64 x2 (bShl .i64 (wi64 (bAnd .u8 (bt a0 x3) 127)) (wi64 (7 * x3))))), (4, .int .i64 x3), (7, .int .i64 (if 8 < (a0.size : Int) then 8 else (a0.size : Int))), (8, .int .i64 x3), (21, .string a0), (22, .int .i64 x3)]) (by kernel_rfl) ?_
      obtain ⟨hg7, h1⟩ := guardS h1
      refine OpsT.cons (Does.yi (Yl.indexStr (d := 23) (T := 9) (k := .i64) (j := x3) (s := a0) (by kernel_rfl) Go.Proofs.Try.underlying9 hg7.1 hg7.2) hI ?_)
      refine OpsT.pures (r := []) [3] [0, 2, 3, 4, 7, 8, 24] (S' := [(0, .string a0), (2, .pointer (some ⟨b1, 0, none⟩)), (3, .int .i64 (bOr .i64 x2 (bShl .i64 (wi64 (bAnd .u8 (bt a0 x3) 127)) (wi64 (7 * x3))))), (4, .int .i64 x3), (7, .int .i64 (if 8 < (a0.size : Int) then 8 else (a0.size : Int))), (8, .int .i64 x3), (24, .bool (decide ((bt a0 x3) < 128)))]) (by kernel_rfl) ?_
      refine OpsT.done ?_
      refine Qn.then ?_
      by_cases hb8 : (decide ((bt a0 x3) < 128)) = true
      · rw [if_pos hb8] at h1
        refine CodT.yes' (b := decide ((bt a0 x3) < 128)) (by kernel_rfl) hb8 ?_
        obtain ⟨r2, h2, h1⟩ := bindS h1
        refine CodT.meet (fun a w => ∃ (x9 : WireGot_int), x9 = r2 ∧ Fr 45 [(2, .pointer (some ⟨b1, 0, none⟩))] a ∧ Inv w0 Z w (star (pt b1 (.cells (c_WireGot_int x9).toArray 62 (0, 0))) A)) ?_ ?_
        ·
          refine CodT.drawI (n := 19) [18] (by kernel_rfl) (by kernel_rfl) hI ?_
          intro w hI
          refine GmT.p' 0 25 (.int .i64 (bOr .i64 x2 (bShl .i64 (wi64 (bAnd .u8 (bt a0 x3) 127)) (wi64 (7 * x3))))) (by kernel_rfl) (by kernel_rfl) ?_
          refine GmT.p' 1 26 (.string a0) (by kernel_rfl) (by kernel_rfl) ?_
          refine GmT.p' 2 27 (.int .i64 x3) (by kernel_rfl) (by kernel_rfl) ?_
          refine GmT.p' 3 28 (.int .i64 (wi64 (x3 + 1))) (by kernel_rfl) (by kernel_rfl) ?_
          refine GmT.p' 5 30 (.int .i64 (bOr .i64 x2 (bShl .i64 (wi64 (bAnd .u8 (bt a0 x3) 127)) (wi64 (7 * x3))))) (by kernel_rfl) (by kernel_rfl) ?_
          refine GmT.p' 6 31 (.bool (decide ((bOr .i64 x2 (bShl .i64 (wi64 (bAnd .u8 (bt a0 x3) 127)) (wi64 (7 * x3)))) ≤ 1125899906842624))) (by kernel_rfl) (by kernel_rfl) ?_
          refine GmT.p' 7 32 (.bool (decide ((bOr .i64 x2 (bShl .i64 (wi64 (bAnd .u8 (bt a0 x3) 127)) (wi64 (7 * x3)))) ≤ 1125899906842624))) (by kernel_rfl) (by kernel_rfl) ?_
          by_cases hb10 : (decide ((bOr .i64 x2 (bShl .i64 (wi64 (bAnd .u8 (bt a0 x3) 127)) (wi64 (7 * x3)))) ≤ 1125899906842624)) = true
          · rw [if_pos hb10] at h2
            refine GmT.keep [0, 2, 4, 25, 26, 28, 32] (S' := [(0, .string a0), (2, .pointer (some ⟨b1, 0, none⟩)), (4, .int .i64 x3), (25, .int .i64 (bOr .i64 x2 (bShl .i64 (wi64 (bAnd .u8 (bt a0 x3) 127)) (wi64 (7 * x3))))), (26, .string a0), (28, .int .i64 (wi64 (x3 + 1))), (32, .bool true)]) (by (try simp only [hb10]); kernel_rfl) ?_
            refine GmT.p' 8 33 (.int .i64 x3) (by kernel_rfl) (by kernel_rfl) ?_
            refine GmT.p' 9 34 (.bool (x3 == 0)) (by kernel_rfl) (by kernel_rfl) ?_
            refine GmT.p' 10 35 (.bool (x3 == 0)) (by kernel_rfl) (by kernel_rfl) ?_
            by_cases hb11 : (x3 == 0) = true
            · rw [if_pos hb11] at h2
              refine GmT.keep [0, 2, 4, 25, 26, 28, 32, 35] (S' := [(0, .string a0), (2, .pointer (some ⟨b1, 0, none⟩)), (4, .int .i64 x3), (25, .int .i64 (bOr .i64 x2 (bShl .i64 (wi64 (bAnd .u8 (bt a0 x3) 127)) (wi64 (7 * x3))))), (26, .string a0), (28, .int .i64 (wi64 (x3 + 1))), (32, .bool true), (35, .bool true)]) (by (try simp only [hb11]); kernel_rfl) ?_
              refine GmT.p' 11 36 (undef) (by kernel_rfl) (by kernel_rfl) ?_
              refine GmT.p' 12 37 (undef) (by kernel_rfl) (by kernel_rfl) ?_
              refine GmT.p' 13 38 (undef) (by kernel_rfl) (by kernel_rfl) ?_
              refine GmT.p' 14 39 (undef) (by kernel_rfl) (by kernel_rfl) ?_
              refine GmT.p' 15 40 (.bool true) (by kernel_rfl) (by kernel_rfl) ?_
              refine GmT.p' 16 41 (.bool true) (by kernel_rfl) (by kernel_rfl) ?_
              obtain ⟨hg12, h2⟩ := guardS h2
              refine GmT.r (i := 4) 2 (by kernel_rfl) (by kernel_rfl) (Yl.sliceStr10 (d := 29) (T := 9) (s := a0) (lo := wi64 (x3 + 1)) (by kernel_rfl) Go.Proofs.Try.underlying9 hg12) hI ?_
              refine GmT.p' 17 42 (.agg (c_WireGot_int (WireGot_int.mk (bOr .i64 x2 (bShl .i64 (wi64 (bAnd .u8 (bt a0 x3) 127)) (wi64 (7 * x3)))) (sx a0 (wi64 (x3 + 1)) (a0.size : Int)) true)).toArray) (by kernel_rfl) (by kernel_rfl) ?_
              refine GmT.o (i := 18) (by kernel_rfl) (Does.storeLit (T := 62) (b := b1) (o := 0) (v := .agg (c_WireGot_int (WireGot_int.mk (bOr .i64 x2 (bShl .i64 (wi64 (bAnd .u8 (bt a0 x3) 127)) (wi64 (7 * x3)))) (sx a0 (wi64 (x3 + 1)) (a0.size : Int)) true)).toArray) (l := c_WireGot_int (WireGot_int.mk 0 (⟨#[]⟩ : ByteArray) false)) (vs := c_WireGot_int (WireGot_int.mk (bOr .i64 x2 (bShl .i64 (wi64 (bAnd .u8 (bt a0 x3) 127)) (wi64 (7 * x3)))) (sx a0 (wi64 (x3 + 1)) (a0.size : Int)) true)) (L' := c_WireGot_int (WireGot_int.mk (bOr .i64 x2 (bShl .i64 (wi64 (bAnd .u8 (bt a0 x3) 127)) (wi64 (7 * x3)))) (sx a0 (wi64 (x3 + 1)) (a0.size : Int)) true)) (by kernel_rfl) ty62 hI (by kernel_rfl) (by kernel_rfl) (by kernel_rfl) (by kernel_rfl) (by kernel_rfl) ?_)
              intro w hI
              refine ⟨fun h => absurd h (by decide), ?_⟩
              refine GmT.done (by kernel_rfl) ?_
              have e := someS h2
              subst e
              exact Qn.thenJ fun a ha => ⟨(WireGot_int.mk (bOr .i64 x2 (bShl .i64 (wi64 (bAnd .u8 (bt a0 x3) 127)) (wi64 (7 * x3)))) (sx a0 (wi64 (x3 + 1)) (a0.size : Int)) true), rfl, ha.keep [2] (by kernel_rfl), hI⟩
            · rw [if_neg hb11] at h2
              have hb11 : (x3 == 0) = false := by simpa using hb11
              refine GmT.keep [0, 2, 4, 25, 26, 28, 32, 35] (S' := [(0, .string a0), (2, .pointer (some ⟨b1, 0, none⟩)), (4, .int .i64 x3), (25, .int .i64 (bOr .i64 x2 (bShl .i64 (wi64 (bAnd .u8 (bt a0 x3) 127)) (wi64 (7 * x3))))), (26, .string a0), (28, .int .i64 (wi64 (x3 + 1))), (32, .bool true), (35, .bool false)]) (by (try simp only [hb11]); kernel_rfl) ?_
              refine GmT.p' 11 36 (.string a0) (by kernel_rfl) (by kernel_rfl) ?_
              refine GmT.p' 12 37 (.int .i64 x3) (by kernel_rfl) (by kernel_rfl) ?_
              obtain ⟨hg13, h2⟩ := guardS h2
              refine GmT.r (i := 4) 2 (by kernel_rfl) (by kernel_rfl) (Yl.sliceStr10 (d := 29) (T := 9) (s := a0) (lo := wi64 (x3 + 1)) (by kernel_rfl) Go.Proofs.Try.underlying9 hg13) hI ?_
              obtain ⟨hg14, h2⟩ := guardS h2
              refine GmT.r (i := 13) 2 (by kernel_rfl) (by kernel_rfl) (Yl.indexStr (d := 38) (T := 9) (k := .i64) (j := x3) (s := a0) (by kernel_rfl) Go.Proofs.Try.underlying9 hg14.1 hg14.2) hI ?_
              refine GmT.p' 14 39 (.bool (decide ((bt a0 x3) > 0))) (by kernel_rfl) (by kernel_rfl) ?_
              refine GmT.p' 15 40 (.bool (decide ((bt a0 x3) > 0))) (by kernel_rfl) (by kernel_rfl) ?_
              refine GmT.p' 16 41 (.bool (decide ((bt a0 x3) > 0))) (by kernel_rfl) (by kernel_rfl) ?_
              refine GmT.p' 17 42 (.agg (c_WireGot_int (WireGot_int.mk (bOr .i64 x2 (bShl .i64 (wi64 (bAnd .u8 (bt a0 x3) 127)) (wi64 (7 * x3)))) (sx a0 (wi64 (x3 + 1)) (a0.size : Int)) (decide ((bt a0 x3) > 0)))).toArray) (by kernel_rfl) (by kernel_rfl) ?_
              refine GmT.o (i := 18) (by kernel_rfl) (Does.storeLit (T := 62) (b := b1) (o := 0) (v := .agg (c_WireGot_int (WireGot_int.mk (bOr .i64 x2 (bShl .i64 (wi64 (bAnd .u8 (bt a0 x3) 127)) (wi64 (7 * x3)))) (sx a0 (wi64 (x3 + 1)) (a0.size : Int)) (decide ((bt a0 x3) > 0)))).toArray) (l := c_WireGot_int (WireGot_int.mk 0 (⟨#[]⟩ : ByteArray) false)) (vs := c_WireGot_int (WireGot_int.mk (bOr .i64 x2 (bShl .i64 (wi64 (bAnd .u8 (bt a0 x3) 127)) (wi64 (7 * x3)))) (sx a0 (wi64 (x3 + 1)) (a0.size : Int)) (decide ((bt a0 x3) > 0)))) (L' := c_WireGot_int (WireGot_int.mk (bOr .i64 x2 (bShl .i64 (wi64 (bAnd .u8 (bt a0 x3) 127)) (wi64 (7 * x3)))) (sx a0 (wi64 (x3 + 1)) (a0.size : Int)) (decide ((bt a0 x3) > 0)))) (by kernel_rfl) ty62 hI (by kernel_rfl) (by kernel_rfl) (by kernel_rfl) (by kernel_rfl) (by kernel_rfl) ?_)
              intro w hI
              refine ⟨fun h => absurd h (by decide), ?_⟩
              refine GmT.done (by kernel_rfl) ?_
              have e := someS h2
              subst e
              exact Qn.thenJ fun a ha => ⟨(WireGot_int.mk (bOr .i64 x2 (bShl .i64 (wi64 (bAnd .u8 (bt a0 x3) 127)) (wi64 (7 * x3)))) (sx a0 (wi64 (x3 + 1)) (a0.size : Int)) (decide ((bt a0 x3) > 0))), rfl, ha.keep [2] (by kernel_rfl), hI⟩
          · rw [if_neg hb10] at h2
            have hb10 : (decide ((bOr .i64 x2 (bShl .i64 (wi64 (bAnd .u8 (bt a0 x3) 127)) (wi64 (7 * x3)))) ≤ 1125899906842624)) = false := by simpa using hb10
            refine GmT.keep [0, 2, 4, 25, 26, 28, 32] (S' := [(0, .string a0), (2, .pointer (some ⟨b1, 0, none⟩)), (4, .int .i64 x3), (25, .int .i64 (bOr .i64 x2 (bShl .i64 (wi64 (bAnd .u8 (bt a0 x3) 127)) (wi64 (7 * x3))))), (26, .string a0), (28, .int .i64 (wi64 (x3 + 1))), (32, .bool false)]) (by (try simp only [hb10]); kernel_rfl) ?_
            refine GmT.p' 8 33 (undef) (by kernel_rfl) (by kernel_rfl) ?_
            refine GmT.p' 9 34 (undef) (by kernel_rfl) (by kernel_rfl) ?_
            refine GmT.p' 10 35 (undef) (by kernel_rfl) (by kernel_rfl) ?_
            refine GmT.p' 11 36 (undef) (by kernel_rfl) (by kernel_rfl) ?_
            refine GmT.p' 12 37 (undef) (by kernel_rfl) (by kernel_rfl) ?_
            refine GmT.p' 13 38 (undef) (by kernel_rfl) (by kernel_rfl) ?_
            refine GmT.p' 14 39 (undef) (by kernel_rfl) (by kernel_rfl) ?_
            refine GmT.p' 15 40 (undef) (by kernel_rfl) (by kernel_rfl) ?_
            refine GmT.p' 16 41 (.bool false) (by kernel_rfl) (by kernel_rfl) ?_
            obtain ⟨hg15, h2⟩ := guardS h2
            refine GmT.r (i := 4) 2 (by kernel_rfl) (by kernel_rfl) (Yl.sliceStr10 (d := 29) (T := 9) (s := a0) (lo := wi64 (x3 + 1)) (by kernel_rfl) Go.Proofs.Try.underlying9 hg15) hI ?_
            refine GmT.p' 17 42 (.agg (c_WireGot_int (WireGot_int.mk (bOr .i64 x2 (bShl .i64 (wi64 (bAnd .u8 (bt a0 x3) 127)) (wi64 (7 * x3)))) (sx a0 (wi64 (x3 + 1)) (a0.size : Int)) false)).toArray) (by kernel_rfl) (by kernel_rfl) ?_
            refine GmT.o (i := 18) (by kernel_rfl) (Does.storeLit (T := 62) (b := b1) (o := 0) (v := .agg (c_WireGot_int (WireGot_int.mk (bOr .i64 x2 (bShl .i64 (wi64 (bAnd .u8 (bt a0 x3) 127)) (wi64 (7 * x3)))) (sx a0 (wi64 (x3 + 1)) (a0.size : Int)) false)).toArray) (l := c_WireGot_int (WireGot_int.mk 0 (⟨#[]⟩ : ByteArray) false)) (vs := c_WireGot_int (WireGot_int.mk (bOr .i64 x2 (bShl .i64 (wi64 (bAnd .u8 (bt a0 x3) 127)) (wi64 (7 * x3)))) (sx a0 (wi64 (x3 + 1)) (a0.size : Int)) false)) (L' := c_WireGot_int (WireGot_int.mk (bOr .i64 x2 (bShl .i64 (wi64 (bAnd .u8 (bt a0 x3) 127)) (wi64 (7 * x3)))) (sx a0 (wi64 (x3 + 1)) (a0.size : Int)) false)) (by kernel_rfl) ty62 hI (by kernel_rfl) (by kernel_rfl) (by kernel_rfl) (by kernel_rfl) (by kernel_rfl) ?_)
            intro w hI
            refine ⟨fun h => absurd h (by decide), ?_⟩
            refine GmT.done (by kernel_rfl) ?_
            have e := someS h2
            subst e
            exact Qn.thenJ fun a ha => ⟨(WireGot_int.mk (bOr .i64 x2 (bShl .i64 (wi64 (bAnd .u8 (bt a0 x3) 127)) (wi64 (7 * x3)))) (sx a0 (wi64 (x3 + 1)) (a0.size : Int)) false), rfl, ha.keep [2] (by kernel_rfl), hI⟩
        ·
          rintro a w ⟨x9, rfl, ha, hI⟩
          try dsimp only at h1
          refine CodT.of ?_ ha
          refine CodT.ret ?_
          refine Qn.block_ret ?_
          refine Qn.ret_then ?_
          refine Qn.ret_then ?_
          refine Qn.block_ret ?_
          refine Qn.ret_then ?_
          refine Qn.ret_then ?_
          have hL16 := (ldBN ty62 (l := c_WireGot_int x9) (o := 0) (cs := c_WireGot_int x9) (ent_refl _) (by kernel_rfl) (whole _ _ (by kernel_rfl))) w hI
          have hI := hI.drop
          have e := someS h1
          subst e
          try dsimp only at h0
          have e := someS h0
          subst e
          refine Qn.keep [2] (S' := [(2, .pointer (some ⟨b1, 0, none⟩))]) (by kernel_rfl) ?_
          exact post_ret (v := .agg (c_WireGot_int x9).toArray) (fun a ha => RunRes.run (vs := [.agg (c_WireGot_int x9).toArray]) (.cell (t := 2) (T := 62) (ad := ⟨b1, 0, none⟩) (by kernel_rfl) hL16 .nil) ha (by kernel_rfl)) ⟨rfl, hI⟩
      · rw [if_neg hb8] at h1
        refine CodT.no' (b := decide ((bt a0 x3) < 128)) (by kernel_rfl) (by simpa using hb8) ?_
        refine CodT.skip ?_
        refine Qn.block_normal ?_
        refine Qn.then ?_
        refine CodT.regionL [0, 1] (by kernel_rfl) ?_
        refine OpsT.pures (r := []) [0, 1] [0, 2, 3, 7, 8] (S' := [(0, .string a0), (2, .pointer (some ⟨b1, 0, none⟩)), (3, .int .i64 (bOr .i64 x2 (bShl .i64 (wi64 (bAnd .u8 (bt a0 x3) 127)) (wi64 (7 * x3))))), (7, .int .i64 (if 8 < (a0.size : Int) then 8 else (a0.size : Int))), (8, .int .i64 (wi64 (x3 + 1)))]) (by kernel_rfl) ?_
        refine OpsT.done ?_
        exact Qn.thenJ fun a ha => ⟨k, Nat.lt_succ_self k, bOr .i64 x2 (bShl .i64 (wi64 (bAnd .u8 (bt a0 x3) 127)) (wi64 (7 * x3))), wi64 (x3 + 1), h1, ha.keep [0, 2, 3, 7, 8] (by kernel_rfl), hI⟩
    · rw [if_neg hb4] at h1
      refine CodT.no' (b := decide (x3 < (if 8 < (a0.size : Int) then 8 else (a0.size : Int)))) (by kernel_rfl) (by simpa using hb4) ?_
      refine CodT.exit ?_
      refine Qn.exit_then ?_
      refine Qn.exit_then ?_
      refine Qn.block ?_
      have e := someS h1
      subst e
      exact Qn.thenJ fun a ha => ⟨rfl, ha.keep [2] (by kernel_rfl), hI⟩
  ·
    rintro a w ⟨rfl, ha, hI⟩
    try dsimp only at h0
    refine Qn.of ?_ ha
    refine Qn.then ?_
    refine CodT.seq ?_
    refine CodT.regionL [0, 1] (by kernel_rfl) ?_
    refine OpsT.pures (r := [1]) [0] [2, 44] (S' := [(2, .pointer (some ⟨b1, 0, none⟩)), (44, .agg (c_WireGot_int (WireGot_int.mk 0 (⟨#[]⟩ : ByteArray) false)).toArray)]) (by kernel_rfl) ?_
    refine OpsT.cons (Does.storeLit (T := 62) (b := b1) (o := 0) (v := .agg (c_WireGot_int (WireGot_int.mk 0 (⟨#[]⟩ : ByteArray) false)).toArray) (l := c_WireGot_int (WireGot_int.mk 0 (⟨#[]⟩ : ByteArray) false)) (vs := c_WireGot_int (WireGot_int.mk 0 (⟨#[]⟩ : ByteArray) false)) (L' := c_WireGot_int (WireGot_int.mk 0 (⟨#[]⟩ : ByteArray) false)) (by kernel_rfl) ty62 hI (by kernel_rfl) (by kernel_rfl) (by kernel_rfl) (by kernel_rfl) (by kernel_rfl) ?_)
    intro w hI
    refine OpsT.done ?_
    refine Qn.then ?_
    refine CodT.ret ?_
    have hL17 := (ldBN ty62 (l := c_WireGot_int (WireGot_int.mk 0 (⟨#[]⟩ : ByteArray) false)) (o := 0) (cs := c_WireGot_int (WireGot_int.mk 0 (⟨#[]⟩ : ByteArray) false)) (ent_refl _) (by kernel_rfl) (whole _ _ (by kernel_rfl))) w hI
    have hI := hI.drop
    have e := someS h0
    subst e
    refine Qn.keep [2] (S' := [(2, .pointer (some ⟨b1, 0, none⟩))]) (by kernel_rfl) ?_
    exact post_ret (v := .agg (c_WireGot_int (WireGot_int.mk 0 (⟨#[]⟩ : ByteArray) false)).toArray) (fun a ha => RunRes.run (vs := [.agg (c_WireGot_int (WireGot_int.mk 0 (⟨#[]⟩ : ByteArray) false)).toArray]) (.cell (t := 2) (T := 62) (ad := ⟨b1, 0, none⟩) (by kernel_rfl) hL17 .nil) ha (by kernel_rfl)) ⟨rfl, hI⟩
set_option maxRecDepth 100000 in
set_option maxHeartbeats 4000000 in
/-- (cenotaph/wire.got[int]).parts -/
theorem c19 (w0 w : World) (Z : Hp) (A : HP) (hI : Inv w0 Z w A) (hT : Tabs Z) (a0 : WireGot_int) (r : (Int × ByteArray × Bool)) (h0 : wire_got_int_parts a0 = some r) :
    Calls prog 19 #[.agg (c_WireGot_int a0).toArray] w (fun e w' => e = .returned (.tuple #[.int .i64 r.1, .string r.2.1, .bool r.2.2]) ∧ Inv w0 Z w' A) := by
  have e4 := calls_intro (R := (fun e w' => e = .returned (.tuple #[.int .i64 r.1, .string r.2.1, .bool r.2.2]) ∧ Inv w0 Z w' A)) (w := w) (args := [.agg (c_WireGot_int a0).toArray]) (fn := Go.Proofs.Try.f19) 14 Go.Proofs.Try.func19 (by rfl) Go.Proofs.Try.ntmps19 (by kernel_rfl)
  refine e4 ?_
  clear e4
  unfold wire_got_int_parts at h0
  refine CodT.seq ?_
  refine CodT.regionL [0, 1, 2, 3] (by kernel_rfl) ?_
  refine OpsT.cons (Does.boxL (d := 1) (T := 62) (v := .agg (c_WireGot_int a0).toArray) (c_WireGot_int a0) (by kernel_rfl) hI (by kernel_rfl) ?_)
  intro b1 w hI
  refine OpsT.pures (r := []) [1, 2, 3] [1] (S' := [(1, .pointer (some ⟨b1, 0, none⟩))]) (by kernel_rfl) ?_
  refine OpsT.done ?_
  refine Qn.then ?_
  refine CodT.seq ?_
  refine CodT.seq ?_
  refine CodT.regionL [0, 1, 2] (by kernel_rfl) ?_
  refine OpsT.pures (r := [1, 2]) [0] [1, 6] (S' := [(1, .pointer (some ⟨b1, 0, none⟩)), (6, .pointer (some ⟨b1, 2, none⟩))]) (by kernel_rfl) ?_
  refine OpsT.cons (Does.yi (Yl.load (d := 7) (T := 4) (v := .bool a0.ok) (by kernel_rfl) (ldB ty4 (l := c_WireGot_int a0) (o := 2) (v := .bool a0.ok) (ent_refl _) (by kernel_rfl))) hI ?_)
  refine OpsT.pures (r := []) [2] [1, 8] (S' := [(1, .pointer (some ⟨b1, 0, none⟩)), (8, .bool (!a0.ok))]) (by kernel_rfl) ?_
  refine OpsT.done ?_
  refine Qn.then ?_
  by_cases hb2 : (!a0.ok) = true
  · rw [if_pos hb2] at h0
    refine CodT.yes' (b := !a0.ok) (by kernel_rfl) hb2 ?_
    refine CodT.seq ?_
    refine CodT.regionL [0] (by kernel_rfl) ?_
    refine OpsT.pures (r := []) [0] [5] (S' := [(5, .int .i64 0)]) (by kernel_rfl) ?_
    refine OpsT.done ?_
    refine Qn.then ?_
    refine CodT.seq ?_
    refine CodT.regionL [0, 1, 2, 3] (by kernel_rfl) ?_
    refine OpsT.pures (r := []) [0, 1, 2, 3] [2, 3, 4] (S' := [(2, .int .i64 0), (3, .string (⟨#[]⟩ : ByteArray)), (4, .bool false)]) (by kernel_rfl) ?_
    refine OpsT.done ?_
    refine Qn.then ?_
    refine CodT.ret ?_
    refine Qn.ret_then ?_
    have hI := hI.drop
    have e := someS h0
    subst e
    refine Qn.keep [2, 3, 4] (S' := [(2, .int .i64 0), (3, .string (⟨#[]⟩ : ByteArray)), (4, .bool false)]) (by kernel_rfl) ?_
    exact post_ret (v := .tuple #[.int .i64 0, .string (⟨#[]⟩ : ByteArray), .bool false]) (fun a ha => RunRes.run (vs := [.int .i64 0, .string (⟨#[]⟩ : ByteArray), .bool false]) (.tmp (t := 2) (by kernel_rfl) (.tmp (t := 3) (by kernel_rfl) (.tmp (t := 4) (by kernel_rfl) .nil))) ha (by kernel_rfl)) ⟨rfl, hI⟩
  · rw [if_neg hb2] at h0
    refine CodT.no' (b := !a0.ok) (by kernel_rfl) (by simpa using hb2) ?_
    refine CodT.skip ?_
    refine Qn.then ?_
    refine CodT.seq ?_
    refine CodT.drawI (n := 7) [] (by kernel_rfl) (by kernel_rfl) hI ?_
    intro w hI
    refine GmT.p' 0 10 (.pointer (some ⟨b1, 0, none⟩)) (by kernel_rfl) (by kernel_rfl) ?_
    refine GmT.p' 2 12 (.pointer (some ⟨b1, 1, none⟩)) (by kernel_rfl) (by kernel_rfl) ?_
    refine GmT.r (i := 1) 2 (by kernel_rfl) (by kernel_rfl) (Yl.load (d := 11) (T := 3) (v := .int .i64 a0.x) (by kernel_rfl) (ldB ty3 (l := c_WireGot_int a0) (o := 0) (v := .int .i64 a0.x) (ent_refl _) (by kernel_rfl))) hI ?_
    refine GmT.p' 4 2 (.int .i64 a0.x) (by kernel_rfl) (by kernel_rfl) ?_
    refine GmT.r (i := 3) 2 (by kernel_rfl) (by kernel_rfl) (Yl.load (d := 13) (T := 9) (v := .string a0.rest) (by kernel_rfl) (ldB ty9 (l := c_WireGot_int a0) (o := 1) (v := .string a0.rest) (ent_refl _) (by kernel_rfl))) hI ?_
    refine GmT.p' 5 3 (.string a0.rest) (by kernel_rfl) (by kernel_rfl) ?_
    refine GmT.p' 6 4 (.bool true) (by kernel_rfl) (by kernel_rfl) ?_
    refine GmT.done (by kernel_rfl) ?_
    refine Qn.then ?_
    refine CodT.ret ?_
    have hI := hI.drop
    have e := someS h0
    subst e
    refine Qn.keep [2, 3, 4] (S' := [(2, .int .i64 a0.x), (3, .string a0.rest), (4, .bool true)]) (by kernel_rfl) ?_
    exact post_ret (v := .tuple #[.int .i64 a0.x, .string a0.rest, .bool true]) (fun a ha => RunRes.run (vs := [.int .i64 a0.x, .string a0.rest, .bool true]) (.tmp (t := 2) (by kernel_rfl) (.tmp (t := 3) (by kernel_rfl) (.tmp (t := 4) (by kernel_rfl) .nil))) ha (by kernel_rfl)) ⟨rfl, hI⟩
set_option maxRecDepth 100000 in
set_option maxHeartbeats 4000000 in
/-- cenotaph/wire.GetNum -/
theorem c13 (w0 w : World) (Z : Hp) (A : HP) (hI : Inv w0 Z w A) (hT : Tabs Z) (a0 : ByteArray) (r : (Int × ByteArray × Bool)) (h0 : wire_GetNum a0 = some r) :
    Calls prog 13 #[.string a0] w (fun e w' => e = .returned (.tuple #[.int .i64 r.1, .string r.2.1, .bool r.2.2]) ∧ Inv w0 Z w' A) := by
  have e4 := calls_intro (R := (fun e w' => e = .returned (.tuple #[.int .i64 r.1, .string r.2.1, .bool r.2.2]) ∧ Inv w0 Z w' A)) (w := w) (args := [.string a0]) (fn := Go.Proofs.Try.f13) 11 Go.Proofs.Try.func13 (by rfl) Go.Proofs.Try.ntmps13 (by kernel_rfl)
  refine e4 ?_
  clear e4
  unfold wire_GetNum at h0
  refine CodT.seq ?_
  refine CodT.regionL [0, 1, 2] (by kernel_rfl) ?_
  refine OpsT.pures (r := []) [0, 1, 2] [0] (S' := [(0, .string a0)]) (by kernel_rfl) ?_
  refine OpsT.done ?_
  refine Qn.then ?_
  refine CodT.seq ?_
  refine CodT.regionL [0, 1, 2, 3, 4, 5, 6, 7, 8] (by kernel_rfl) ?_
  refine OpsT.pures (r := [1, 2, 3, 4, 5, 6, 7, 8]) [0] [5] (S' := [(5, .string a0)]) (by kernel_rfl) ?_
  obtain ⟨y2, hc1, h0⟩ := bindS h0
  try dsimp only at h0
  refine OpsT.cons (Does.call (d := some 6) (n := 18) (vs := [.string a0]) (by kernel_rfl) en18 (c18 w0 w _ _ hI hT a0 _ hc1) ?_)
  rintro e w ⟨rfl, hI⟩
  refine ⟨_, rfl, ?_⟩
  obtain ⟨⟨y4, y5, y6⟩, hc3, h0⟩ := bindS h0
  try dsimp only at h0
  refine OpsT.cons (Does.call (d := some 7) (n := 19) (vs := [.agg (c_WireGot_int y2).toArray]) (by kernel_rfl) en19 (c19 w0 w _ _ hI hT y2 _ hc3) ?_)
  rintro e w ⟨rfl, hI⟩
  refine ⟨_, rfl, ?_⟩
  refine OpsT.pures (r := []) [3, 4, 5, 6, 7, 8] [2, 3, 4] (S' := [(2, .int .i64 y4), (3, .string y5), (4, .bool y6)]) (by kernel_rfl) ?_
  refine OpsT.done ?_
  refine Qn.then ?_
  refine CodT.ret ?_
  have e := someS h0
  subst e
  refine Qn.keep [2, 3, 4] (S' := [(2, .int .i64 y4), (3, .string y5), (4, .bool y6)]) (by kernel_rfl) ?_
  exact post_ret (v := .tuple #[.int .i64 y4, .string y5, .bool y6]) (fun a ha => RunRes.run (vs := [.int .i64 y4, .string y5, .bool y6]) (.tmp (t := 2) (by kernel_rfl) (.tmp (t := 3) (by kernel_rfl) (.tmp (t := 4) (by kernel_rfl) .nil))) ha (by kernel_rfl)) ⟨rfl, hI⟩
set_option maxRecDepth 100000 in
set_option maxHeartbeats 4000000 in
/-- cenotaph/event.words -/
theorem c12 (w0 w : World) (Z : Hp) (A : HP) (hI : Inv w0 Z w A) (hT : Tabs Z)  (r : (List ByteArray)) (h0 : event_words = some r) :
    Calls prog 12 #[] w (fun e w' => e = .returned (.agg (cA Value.string r).toArray) ∧ r.length = 8 ∧ Inv w0 Z w' A) := by
  have e4 := calls_intro (R := (fun e w' => e = .returned (.agg (cA Value.string r).toArray) ∧ r.length = 8 ∧ Inv w0 Z w' A)) (w := w) (args := []) (fn := Go.Proofs.Try.f12) 2 Go.Proofs.Try.func12 (by rfl) Go.Proofs.Try.ntmps12 (by kernel_rfl)
  refine e4 ?_
  clear e4
  unfold event_words at h0
  refine CodT.seq ?_
  refine CodT.regionL [0] (by kernel_rfl) ?_
  refine OpsT.cons (Does.allocL (d := 0) (T := 45) (cA Value.string (List.replicate 8 ((⟨#[]⟩ : ByteArray) : ByteArray))) (by kernel_rfl) ty45 hI (by kernel_rfl) ?_)
  intro b1 w hI
  refine OpsT.done ?_
  refine Qn.then ?_
  refine CodT.seq ?_
  refine CodT.regionL [0, 1] (by kernel_rfl) ?_
  refine OpsT.pures (r := [1]) [0] [0, 1] (S' := [(0, .pointer (some ⟨b1, 0, none⟩)), (1, .agg (cA Value.string ([(⟨#[99, 114, 101, 97, 116, 101]⟩ : ByteArray), (⟨#[97, 112, 112, 101, 110, 100]⟩ : ByteArray), (⟨#[115, 101, 97, 108]⟩ : ByteArray), (⟨#[101, 120, 116, 101, 110, 100]⟩ : ByteArray), (⟨#[104, 111, 108, 100]⟩ : ByteArray), (⟨#[114, 101, 108, 101, 97, 115, 101]⟩ : ByteArray), (⟨#[100, 101, 108, 101, 116, 101]⟩ : ByteArray), (⟨#[116, 105, 99, 107]⟩ : ByteArray)] : List ByteArray)).toArray)]) (by kernel_rfl) ?_
  refine OpsT.cons (Does.storeAll (T := 45) (b := b1) (n := 8) (xs := (List.replicate 8 ((⟨#[]⟩ : ByteArray) : ByteArray))) (ys := ([(⟨#[99, 114, 101, 97, 116, 101]⟩ : ByteArray), (⟨#[97, 112, 112, 101, 110, 100]⟩ : ByteArray), (⟨#[115, 101, 97, 108]⟩ : ByteArray), (⟨#[101, 120, 116, 101, 110, 100]⟩ : ByteArray), (⟨#[104, 111, 108, 100]⟩ : ByteArray), (⟨#[114, 101, 108, 101, 97, 115, 101]⟩ : ByteArray), (⟨#[100, 101, 108, 101, 116, 101]⟩ : ByteArray), (⟨#[116, 105, 99, 107]⟩ : ByteArray)] : List ByteArray)) (by kernel_rfl) ty45 hI (fun _ => rfl) (by kernel_rfl) (by kernel_rfl) ?_)
  intro w hI
  refine OpsT.done ?_
  refine Qn.then ?_
  refine CodT.ret ?_
  have hL2 := (ldBN ty45 (l := cA Value.string ([(⟨#[99, 114, 101, 97, 116, 101]⟩ : ByteArray), (⟨#[97, 112, 112, 101, 110, 100]⟩ : ByteArray), (⟨#[115, 101, 97, 108]⟩ : ByteArray), (⟨#[101, 120, 116, 101, 110, 100]⟩ : ByteArray), (⟨#[104, 111, 108, 100]⟩ : ByteArray), (⟨#[114, 101, 108, 101, 97, 115, 101]⟩ : ByteArray), (⟨#[100, 101, 108, 101, 116, 101]⟩ : ByteArray), (⟨#[116, 105, 99, 107]⟩ : ByteArray)] : List ByteArray)) (o := 0) (cs := cA Value.string ([(⟨#[99, 114, 101, 97, 116, 101]⟩ : ByteArray), (⟨#[97, 112, 112, 101, 110, 100]⟩ : ByteArray), (⟨#[115, 101, 97, 108]⟩ : ByteArray), (⟨#[101, 120, 116, 101, 110, 100]⟩ : ByteArray), (⟨#[104, 111, 108, 100]⟩ : ByteArray), (⟨#[114, 101, 108, 101, 97, 115, 101]⟩ : ByteArray), (⟨#[100, 101, 108, 101, 116, 101]⟩ : ByteArray), (⟨#[116, 105, 99, 107]⟩ : ByteArray)] : List ByteArray)) (ent_refl _) ((cA_length _ _).trans (by kernel_rfl)) (whole _ _ ((cA_length _ _).trans (by kernel_rfl)))) w hI
  have hI := hI.drop
  have e := someS h0
  subst e
  refine Qn.keep [0] (S' := [(0, .pointer (some ⟨b1, 0, none⟩))]) (by kernel_rfl) ?_
  exact post_ret (v := .agg (cA Value.string ([(⟨#[99, 114, 101, 97, 116, 101]⟩ : ByteArray), (⟨#[97, 112, 112, 101, 110, 100]⟩ : ByteArray), (⟨#[115, 101, 97, 108]⟩ : ByteArray), (⟨#[101, 120, 116, 101, 110, 100]⟩ : ByteArray), (⟨#[104, 111, 108, 100]⟩ : ByteArray), (⟨#[114, 101, 108, 101, 97, 115, 101]⟩ : ByteArray), (⟨#[100, 101, 108, 101, 116, 101]⟩ : ByteArray), (⟨#[116, 105, 99, 107]⟩ : ByteArray)] : List ByteArray)).toArray) (fun a ha => RunRes.run (vs := [.agg (cA Value.string ([(⟨#[99, 114, 101, 97, 116, 101]⟩ : ByteArray), (⟨#[97, 112, 112, 101, 110, 100]⟩ : ByteArray), (⟨#[115, 101, 97, 108]⟩ : ByteArray), (⟨#[101, 120, 116, 101, 110, 100]⟩ : ByteArray), (⟨#[104, 111, 108, 100]⟩ : ByteArray), (⟨#[114, 101, 108, 101, 97, 115, 101]⟩ : ByteArray), (⟨#[100, 101, 108, 101, 116, 101]⟩ : ByteArray), (⟨#[116, 105, 99, 107]⟩ : ByteArray)] : List ByteArray)).toArray]) (.cell (t := 0) (T := 45) (ad := ⟨b1, 0, none⟩) (by kernel_rfl) hL2 .nil) ha (by kernel_rfl)) ⟨rfl, (by kernel_rfl), hI⟩
set_option maxRecDepth 100000 in
set_option maxHeartbeats 4000000 in
/-- cenotaph/wire.text -/
theorem c25 (w0 w : World) (Z : Hp) (A : HP) (hI : Inv w0 Z w A) (hT : Tabs Z) (a0 : ByteArray) (a1 : Int) (r : WireGot_string) (h0 : wire_text a0 a1 = some r) :
    Calls prog 25 #[.string a0, .int .i64 a1] w (fun e w' => e = .returned (.agg (c_WireGot_string r).toArray) ∧ Inv w0 Z w' A) := by
  have e4 := calls_intro (R := (fun e w' => e = .returned (.agg (c_WireGot_string r).toArray) ∧ Inv w0 Z w' A)) (w := w) (args := [.string a0, .int .i64 a1]) (fn := Go.Proofs.Try.f25) 32 Go.Proofs.Try.func25 (by rfl) Go.Proofs.Try.ntmps25 (by kernel_rfl)
  refine e4 ?_
  clear e4
  unfold wire_text at h0
  refine CodT.seq ?_
  refine CodT.regionL [0] (by kernel_rfl) ?_
  refine OpsT.cons (Does.allocL (d := 4) (T := 73) (c_WireGot_string (WireGot_string.mk (⟨#[]⟩ : ByteArray) (⟨#[]⟩ : ByteArray) false)) (by kernel_rfl) ty73 hI (by kernel_rfl) ?_)
  intro b1 w hI
  refine OpsT.done ?_
  refine Qn.then ?_
  refine CodT.seq ?_
  refine CodT.regionL [0, 1, 2, 3, 4, 5, 6, 7, 8] (by kernel_rfl) ?_
  refine OpsT.pures (r := [1, 2, 3, 4, 5, 6, 7, 8]) [0] [1, 4, 9] (S' := [(1, .int .i64 a1), (4, .pointer (some ⟨b1, 0, none⟩)), (9, .string a0)]) (by kernel_rfl) ?_
  obtain ⟨⟨y3, y4, y5⟩, hc2, h0⟩ := bindS h0
  try dsimp only at h0
  refine OpsT.cons (Does.call (d := some 10) (n := 13) (vs := [.string a0]) (by kernel_rfl) en13 (c13 w0 w _ _ hI hT a0 _ hc2) ?_)
  rintro e w ⟨rfl, hI⟩
  refine ⟨_, rfl, ?_⟩
  refine OpsT.pures (r := []) [2, 3, 4, 5, 6, 7, 8] [1, 4, 5, 6, 7] (S' := [(1, .int .i64 a1), (4, .pointer (some ⟨b1, 0, none⟩)), (5, .int .i64 y3), (6, .string y4), (7, .bool y5)]) (by kernel_rfl) ?_
  refine OpsT.done ?_
  refine Qn.then ?_
  refine CodT.seq ?_
  obtain ⟨r1, h1, h0⟩ := bindS h0
  refine CodT.meet (fun a w => ∃ (x6 : Bool), x6 = r1 ∧ Fr 32 [(4, .pointer (some ⟨b1, 0, none⟩)), (5, .int .i64 y3), (6, .string y4), (23, .bool x6)] a ∧ Inv w0 Z w (star (pt b1 (.cells (c_WireGot_string (WireGot_string.mk (⟨#[]⟩ : ByteArray) (⟨#[]⟩ : ByteArray) false)).toArray 73 (0, 0))) A)) ?_ ?_
  ·
    refine CodT.regionL [0, 1, 2, 3, 4, 5, 6, 7, 8, 9] (by kernel_rfl) ?_
    refine OpsT.pures (r := [3, 4, 5, 6, 7, 8, 9]) [0, 1, 2] [1, 4, 5, 6, 16] (S' := [(1, .int .i64 a1), (4, .pointer (some ⟨b1, 0, none⟩)), (5, .int .i64 y3), (6, .string y4), (16, .bool (!y5))]) (by kernel_rfl) ?_
    by_cases hb7 : (!y5) = true
    · rw [if_pos hb7] at h1
      refine OpsT.keep [1, 4, 5, 6, 16] (S' := [(1, .int .i64 a1), (4, .pointer (some ⟨b1, 0, none⟩)), (5, .int .i64 y3), (6, .string y4), (16, .bool true)]) (by (try simp only [hb7]); kernel_rfl) ?_
      refine OpsT.pures (r := []) [3, 4, 5, 6, 7, 8, 9] [4, 5, 6, 23] (S' := [(4, .pointer (some ⟨b1, 0, none⟩)), (5, .int .i64 y3), (6, .string y4), (23, .bool true)]) (by kernel_rfl) ?_
      refine OpsT.done ?_
      have e := someS h1
      subst e
      exact Qn.thenJ fun a ha => ⟨true, rfl, ha.keep [4, 5, 6, 23] (by kernel_rfl), hI⟩
    · rw [if_neg hb7] at h1
      have hb7 : (!y5) = false := by simpa using hb7
      refine OpsT.keep [1, 4, 5, 6, 16] (S' := [(1, .int .i64 a1), (4, .pointer (some ⟨b1, 0, none⟩)), (5, .int .i64 y3), (6, .string y4), (16, .bool false)]) (by (try simp only [hb7]); kernel_rfl) ?_
      refine OpsT.pures (r := []) [3, 4, 5, 6, 7, 8, 9] [4, 5, 6, 23] (S' := [(4, .pointer (some ⟨b1, 0, none⟩)), (5, .int .i64 y3), (6, .string y4), (23, .bool (decide (y3 > (if a1 < (y4.size : Int) then a1 else (y4.size : Int)))))]) (by kernel_rfl) ?_
      refine OpsT.done ?_
      have e := someS h1
      subst e
      exact Qn.thenJ fun a ha => ⟨decide (y3 > (if a1 < (y4.size : Int) then a1 else (y4.size : Int))), rfl, ha.keep [4, 5, 6, 23] (by kernel_rfl), hI⟩
  ·
    rintro a w ⟨x6, rfl, ha, hI⟩
    try dsimp only at h0
    refine CodT.of ?_ ha
    by_cases hb8 : x6 = true
    · rw [if_pos hb8] at h0
      refine CodT.yes' (b := x6) (by kernel_rfl) hb8 ?_
      refine CodT.seq ?_
      refine CodT.regionL [0, 1] (by kernel_rfl) ?_
      refine OpsT.pures (r := [1]) [0] [4, 24] (S' := [(4, .pointer (some ⟨b1, 0, none⟩)), (24, .agg (c_WireGot_string (WireGot_string.mk (⟨#[]⟩ : ByteArray) (⟨#[]⟩ : ByteArray) false)).toArray)]) (by kernel_rfl) ?_
      refine OpsT.cons (Does.storeLit (T := 73) (b := b1) (o := 0) (v := .agg (c_WireGot_string (WireGot_string.mk (⟨#[]⟩ : ByteArray) (⟨#[]⟩ : ByteArray) false)).toArray) (l := c_WireGot_string (WireGot_string.mk (⟨#[]⟩ : ByteArray) (⟨#[]⟩ : ByteArray) false)) (vs := c_WireGot_string (WireGot_string.mk (⟨#[]⟩ : ByteArray) (⟨#[]⟩ : ByteArray) false)) (L' := c_WireGot_string (WireGot_string.mk (⟨#[]⟩ : ByteArray) (⟨#[]⟩ : ByteArray) false)) (by kernel_rfl) ty73 hI (by kernel_rfl) (by kernel_rfl) (by kernel_rfl) (by kernel_rfl) (by kernel_rfl) ?_)
      intro w hI
      refine OpsT.done ?_
      refine Qn.then ?_
      refine CodT.ret ?_
      refine Qn.ret_then ?_
      have hL9 := (ldBN ty73 (l := c_WireGot_string (WireGot_string.mk (⟨#[]⟩ : ByteArray) (⟨#[]⟩ : ByteArray) false)) (o := 0) (cs := c_WireGot_string (WireGot_string.mk (⟨#[]⟩ : ByteArray) (⟨#[]⟩ : ByteArray) false)) (ent_refl _) (by kernel_rfl) (whole _ _ (by kernel_rfl))) w hI
      have hI := hI.drop
      have e := someS h0
      subst e
      refine Qn.keep [4] (S' := [(4, .pointer (some ⟨b1, 0, none⟩))]) (by kernel_rfl) ?_
      exact post_ret (v := .agg (c_WireGot_string (WireGot_string.mk (⟨#[]⟩ : ByteArray) (⟨#[]⟩ : ByteArray) false)).toArray) (fun a ha => RunRes.run (vs := [.agg (c_WireGot_string (WireGot_string.mk (⟨#[]⟩ : ByteArray) (⟨#[]⟩ : ByteArray) false)).toArray]) (.cell (t := 4) (T := 73) (ad := ⟨b1, 0, none⟩) (by kernel_rfl) hL9 .nil) ha (by kernel_rfl)) ⟨rfl, hI⟩
    · rw [if_neg hb8] at h0
      refine CodT.no' (b := x6) (by kernel_rfl) (by simpa using hb8) ?_
      refine CodT.skip ?_
      refine Qn.then ?_
      refine CodT.seq ?_
      refine CodT.drawI (n := 8) [7] (by kernel_rfl) (by kernel_rfl) hI ?_
      intro w hI
      refine GmT.p' 0 25 (.string y4) (by kernel_rfl) (by kernel_rfl) ?_
      refine GmT.p' 1 26 (.int .i64 y3) (by kernel_rfl) (by kernel_rfl) ?_
      refine GmT.p' 3 28 (.string y4) (by kernel_rfl) (by kernel_rfl) ?_
      refine GmT.p' 4 29 (.int .i64 y3) (by kernel_rfl) (by kernel_rfl) ?_
      obtain ⟨hg10, h0⟩ := guardS h0
      refine GmT.r (i := 2) 2 (by kernel_rfl) (by kernel_rfl) (Yl.sliceStr01 (d := 27) (T := 9) (s := y4) (hi := y3) (by kernel_rfl) Go.Proofs.Try.underlying9 hg10) hI ?_
      obtain ⟨hg11, h0⟩ := guardS h0
      refine GmT.r (i := 5) 2 (by kernel_rfl) (by kernel_rfl) (Yl.sliceStr10 (d := 30) (T := 9) (s := y4) (lo := y3) (by kernel_rfl) Go.Proofs.Try.underlying9 hg11) hI ?_
      refine GmT.p' 6 31 (.agg (c_WireGot_string (WireGot_string.mk (sx y4 0 y3) (sx y4 y3 (y4.size : Int)) true)).toArray) (by kernel_rfl) (by kernel_rfl) ?_
      refine GmT.o (i := 7) (by kernel_rfl) (Does.storeLit (T := 73) (b := b1) (o := 0) (v := .agg (c_WireGot_string (WireGot_string.mk (sx y4 0 y3) (sx y4 y3 (y4.size : Int)) true)).toArray) (l := c_WireGot_string (WireGot_string.mk (⟨#[]⟩ : ByteArray) (⟨#[]⟩ : ByteArray) false)) (vs := c_WireGot_string (WireGot_string.mk (sx y4 0 y3) (sx y4 y3 (y4.size : Int)) true)) (L' := c_WireGot_string (WireGot_string.mk (sx y4 0 y3) (sx y4 y3 (y4.size : Int)) true)) (by kernel_rfl) ty73 hI (by kernel_rfl) (by kernel_rfl) (by kernel_rfl) (by kernel_rfl) (by kernel_rfl) ?_)
      intro w hI
      refine ⟨fun h => absurd h (by decide), ?_⟩
      refine GmT.done (by kernel_rfl) ?_
      refine Qn.then ?_
      refine CodT.ret ?_
      have hL12 := (ldBN ty73 (l := c_WireGot_string (WireGot_string.mk (sx y4 0 y3) (sx y4 y3 (y4.size : Int)) true)) (o := 0) (cs := c_WireGot_string (WireGot_string.mk (sx y4 0 y3) (sx y4 y3 (y4.size : Int)) true)) (ent_refl _) (by kernel_rfl) (whole _ _ (by kernel_rfl))) w hI
      have hI := hI.drop
      have e := someS h0
      subst e
      refine Qn.keep [4] (S' := [(4, .pointer (some ⟨b1, 0, none⟩))]) (by kernel_rfl) ?_
      exact post_ret (v := .agg (c_WireGot_string (WireGot_string.mk (sx y4 0 y3) (sx y4 y3 (y4.size : Int)) true)).toArray) (fun a ha => RunRes.run (vs := [.agg (c_WireGot_string (WireGot_string.mk (sx y4 0 y3) (sx y4 y3 (y4.size : Int)) true)).toArray]) (.cell (t := 4) (T := 73) (ad := ⟨b1, 0, none⟩) (by kernel_rfl) hL12 .nil) ha (by kernel_rfl)) ⟨rfl, hI⟩
set_option maxRecDepth 100000 in
set_option maxHeartbeats 4000000 in
/-- (cenotaph/wire.got[string]).parts -/
theorem c26 (w0 w : World) (Z : Hp) (A : HP) (hI : Inv w0 Z w A) (hT : Tabs Z) (a0 : WireGot_string) (r : (ByteArray × ByteArray × Bool)) (h0 : wire_got_string_parts a0 = some r) :
    Calls prog 26 #[.agg (c_WireGot_string a0).toArray] w (fun e w' => e = .returned (.tuple #[.string r.1, .string r.2.1, .bool r.2.2]) ∧ Inv w0 Z w' A) := by
  have e4 := calls_intro (R := (fun e w' => e = .returned (.tuple #[.string r.1, .string r.2.1, .bool r.2.2]) ∧ Inv w0 Z w' A)) (w := w) (args := [.agg (c_WireGot_string a0).toArray]) (fn := Go.Proofs.Try.f26) 14 Go.Proofs.Try.func26 (by rfl) Go.Proofs.Try.ntmps26 (by kernel_rfl)
  refine e4 ?_
  clear e4
  unfold wire_got_string_parts at h0
  refine CodT.seq ?_
  refine CodT.regionL [0, 1, 2, 3] (by kernel_rfl) ?_
  refine OpsT.cons (Does.boxL (d := 1) (T := 73) (v := .agg (c_WireGot_string a0).toArray) (c_WireGot_string a0) (by kernel_rfl) hI (by kernel_rfl) ?_)
  intro b1 w hI
  refine OpsT.pures (r := []) [1, 2, 3] [1] (S' := [(1, .pointer (some ⟨b1, 0, none⟩))]) (by kernel_rfl) ?_
  refine OpsT.done ?_
  refine Qn.then ?_
  refine CodT.seq ?_
  refine CodT.seq ?_
  refine CodT.regionL [0, 1, 2] (by kernel_rfl) ?_
  refine OpsT.pures (r := [1, 2]) [0] [1, 6] (S' := [(1, .pointer (some ⟨b1, 0, none⟩)), (6, .pointer (some ⟨b1, 2, none⟩))]) (by kernel_rfl) ?_
  refine OpsT.cons (Does.yi (Yl.load (d := 7) (T := 4) (v := .bool a0.ok) (by kernel_rfl) (ldB ty4 (l := c_WireGot_string a0) (o := 2) (v := .bool a0.ok) (ent_refl _) (by kernel_rfl))) hI ?_)
  refine OpsT.pures (r := []) [2] [1, 8] (S' := [(1, .pointer (some ⟨b1, 0, none⟩)), (8, .bool (!a0.ok))]) (by kernel_rfl) ?_
  refine OpsT.done ?_
  refine Qn.then ?_
  by_cases hb2 : (!a0.ok) = true
  · rw [if_pos hb2] at h0
    refine CodT.yes' (b := !a0.ok) (by kernel_rfl) hb2 ?_
    refine CodT.seq ?_
    refine CodT.regionL [0] (by kernel_rfl) ?_
    refine OpsT.pures (r := []) [0] [5] (S' := [(5, .string (⟨#[]⟩ : ByteArray))]) (by kernel_rfl) ?_
    refine OpsT.done ?_
    refine Qn.then ?_
    refine CodT.seq ?_
    refine CodT.regionL [0, 1, 2, 3] (by kernel_rfl) ?_
    refine OpsT.pures (r := []) [0, 1, 2, 3] [2, 3, 4] (S' := [(2, .string (⟨#[]⟩ : ByteArray)), (3, .string (⟨#[]⟩ : ByteArray)), (4, .bool false)]) (by kernel_rfl) ?_
    refine OpsT.done ?_
    refine Qn.then ?_
    refine CodT.ret ?_
    refine Qn.ret_then ?_
    have hI := hI.drop
    have e := someS h0
    subst e
    refine Qn.keep [2, 3, 4] (S' := [(2, .string (⟨#[]⟩ : ByteArray)), (3, .string (⟨#[]⟩ : ByteArray)), (4, .bool false)]) (by kernel_rfl) ?_
    exact post_ret (v := .tuple #[.string (⟨#[]⟩ : ByteArray), .string (⟨#[]⟩ : ByteArray), .bool false]) (fun a ha => RunRes.run (vs := [.string (⟨#[]⟩ : ByteArray), .string (⟨#[]⟩ : ByteArray), .bool false]) (.tmp (t := 2) (by kernel_rfl) (.tmp (t := 3) (by kernel_rfl) (.tmp (t := 4) (by kernel_rfl) .nil))) ha (by kernel_rfl)) ⟨rfl, hI⟩
  · rw [if_neg hb2] at h0
    refine CodT.no' (b := !a0.ok) (by kernel_rfl) (by simpa using hb2) ?_
    refine CodT.skip ?_
    refine Qn.then ?_
    refine CodT.seq ?_
    refine CodT.drawI (n := 7) [] (by kernel_rfl) (by kernel_rfl) hI ?_
    intro w hI
    refine GmT.p' 0 10 (.pointer (some ⟨b1, 0, none⟩)) (by kernel_rfl) (by kernel_rfl) ?_
    refine GmT.p' 2 12 (.pointer (some ⟨b1, 1, none⟩)) (by kernel_rfl) (by kernel_rfl) ?_
    refine GmT.r (i := 1) 2 (by kernel_rfl) (by kernel_rfl) (Yl.load (d := 11) (T := 9) (v := .string a0.x) (by kernel_rfl) (ldB ty9 (l := c_WireGot_string a0) (o := 0) (v := .string a0.x) (ent_refl _) (by kernel_rfl))) hI ?_
    refine GmT.p' 4 2 (.string a0.x) (by kernel_rfl) (by kernel_rfl) ?_
    refine GmT.r (i := 3) 2 (by kernel_rfl) (by kernel_rfl) (Yl.load (d := 13) (T := 9) (v := .string a0.rest) (by kernel_rfl) (ldB ty9 (l := c_WireGot_string a0) (o := 1) (v := .string a0.rest) (ent_refl _) (by kernel_rfl))) hI ?_
    refine GmT.p' 5 3 (.string a0.rest) (by kernel_rfl) (by kernel_rfl) ?_
    refine GmT.p' 6 4 (.bool true) (by kernel_rfl) (by kernel_rfl) ?_
    refine GmT.done (by kernel_rfl) ?_
    refine Qn.then ?_
    refine CodT.ret ?_
    have hI := hI.drop
    have e := someS h0
    subst e
    refine Qn.keep [2, 3, 4] (S' := [(2, .string a0.x), (3, .string a0.rest), (4, .bool true)]) (by kernel_rfl) ?_
    exact post_ret (v := .tuple #[.string a0.x, .string a0.rest, .bool true]) (fun a ha => RunRes.run (vs := [.string a0.x, .string a0.rest, .bool true]) (.tmp (t := 2) (by kernel_rfl) (.tmp (t := 3) (by kernel_rfl) (.tmp (t := 4) (by kernel_rfl) .nil))) ha (by kernel_rfl)) ⟨rfl, hI⟩
set_option maxRecDepth 100000 in
set_option maxHeartbeats 4000000 in
/-- cenotaph/wire.GetText -/
theorem c20 (w0 w : World) (Z : Hp) (A : HP) (hI : Inv w0 Z w A) (hT : Tabs Z) (a0 : ByteArray) (a1 : Int) (r : (ByteArray × ByteArray × Bool)) (h0 : wire_GetText a0 a1 = some r) :
    Calls prog 20 #[.string a0, .int .i64 a1] w (fun e w' => e = .returned (.tuple #[.string r.1, .string r.2.1, .bool r.2.2]) ∧ Inv w0 Z w' A) := by
  have e4 := calls_intro (R := (fun e w' => e = .returned (.tuple #[.string r.1, .string r.2.1, .bool r.2.2]) ∧ Inv w0 Z w' A)) (w := w) (args := [.string a0, .int .i64 a1]) (fn := Go.Proofs.Try.f20) 14 Go.Proofs.Try.func20 (by rfl) Go.Proofs.Try.ntmps20 (by kernel_rfl)
  refine e4 ?_
  clear e4
  unfold wire_GetText at h0
  refine CodT.seq ?_
  refine CodT.regionL [0, 1, 2] (by kernel_rfl) ?_
  refine OpsT.pures (r := []) [0, 1, 2] [0, 1] (S' := [(0, .string a0), (1, .int .i64 a1)]) (by kernel_rfl) ?_
  refine OpsT.done ?_
  refine Qn.then ?_
  refine CodT.seq ?_
  refine CodT.regionL [0, 1, 2, 3, 4, 5, 6, 7, 8, 9] (by kernel_rfl) ?_
  refine OpsT.pures (r := [2, 3, 4, 5, 6, 7, 8, 9]) [0, 1] [7, 8] (S' := [(7, .string a0), (8, .int .i64 a1)]) (by kernel_rfl) ?_
  obtain ⟨y2, hc1, h0⟩ := bindS h0
  try dsimp only at h0
  refine OpsT.cons (Does.call (d := some 9) (n := 25) (vs := [.string a0, .int .i64 a1]) (by kernel_rfl) en25 (c25 w0 w _ _ hI hT a0 a1 _ hc1) ?_)
  rintro e w ⟨rfl, hI⟩
  refine ⟨_, rfl, ?_⟩
  obtain ⟨⟨y4, y5, y6⟩, hc3, h0⟩ := bindS h0
  try dsimp only at h0
  refine OpsT.cons (Does.call (d := some 10) (n := 26) (vs := [.agg (c_WireGot_string y2).toArray]) (by kernel_rfl) en26 (c26 w0 w _ _ hI hT y2 _ hc3) ?_)
  rintro e w ⟨rfl, hI⟩
  refine ⟨_, rfl, ?_⟩
  refine OpsT.pures (r := []) [4, 5, 6, 7, 8, 9] [4, 5, 6] (S' := [(4, .string y4), (5, .string y5), (6, .bool y6)]) (by kernel_rfl) ?_
  refine OpsT.done ?_
  refine Qn.then ?_
  refine CodT.ret ?_
  have e := someS h0
  subst e
  refine Qn.keep [4, 5, 6] (S' := [(4, .string y4), (5, .string y5), (6, .bool y6)]) (by kernel_rfl) ?_
  exact post_ret (v := .tuple #[.string y4, .string y5, .bool y6]) (fun a ha => RunRes.run (vs := [.string y4, .string y5, .bool y6]) (.tmp (t := 4) (by kernel_rfl) (.tmp (t := 5) (by kernel_rfl) (.tmp (t := 6) (by kernel_rfl) .nil))) ha (by kernel_rfl)) ⟨rfl, hI⟩
set_option maxRecDepth 100000 in
set_option maxHeartbeats 4000000 in
/-- (cenotaph/wire.got[cenotaph/api.Digest]).parts -/
theorem c27 (w0 w : World) (Z : Hp) (A : HP) (hI : Inv w0 Z w A) (hT : Tabs Z) (a0 : WireGot_api_Digest) (hl1 : a0.x.length = 32) (r : ((List Int) × ByteArray × Bool)) (h0 : wire_got_apiDigest_parts a0 = some r) :
    Calls prog 27 #[.agg (c_WireGot_api_Digest a0).toArray] w (fun e w' => e = .returned (.tuple #[.agg (cA (Value.int .u8) r.1).toArray, .string r.2.1, .bool r.2.2]) ∧ r.1.length = 32 ∧ Inv w0 Z w' A) := by
  have e4 := calls_intro (R := (fun e w' => e = .returned (.tuple #[.agg (cA (Value.int .u8) r.1).toArray, .string r.2.1, .bool r.2.2]) ∧ r.1.length = 32 ∧ Inv w0 Z w' A)) (w := w) (args := [.agg (c_WireGot_api_Digest a0).toArray]) (fn := Go.Proofs.Try.f27) 14 Go.Proofs.Try.func27 (by rfl) Go.Proofs.Try.ntmps27 (by kernel_rfl)
  refine e4 ?_
  clear e4
  unfold wire_got_apiDigest_parts at h0
  refine CodT.seq ?_
  refine CodT.regionL [0, 1, 2, 3] (by kernel_rfl) ?_
  refine OpsT.cons (Does.boxL (d := 1) (T := 77) (v := .agg (c_WireGot_api_Digest a0).toArray) (c_WireGot_api_Digest a0) (by kernel_rfl) hI (by kernel_rfl) ?_)
  intro b2 w hI
  refine OpsT.cons (Does.allocL (d := 2) (T := 24) (cA (Value.int .u8) (List.replicate 32 (0 : Int))) (by kernel_rfl) ty24 hI (by kernel_rfl) ?_)
  intro b3 w hI
  refine OpsT.pures (r := []) [2, 3] [1, 2] (S' := [(1, .pointer (some ⟨b2, 0, none⟩)), (2, .pointer (some ⟨b3, 0, none⟩))]) (by kernel_rfl) ?_
  refine OpsT.done ?_
  refine Qn.then ?_
  refine CodT.seq ?_
  refine CodT.seq ?_
  refine CodT.regionL [0, 1, 2] (by kernel_rfl) ?_
  refine OpsT.pures (r := [1, 2]) [0] [1, 2, 6] (S' := [(1, .pointer (some ⟨b2, 0, none⟩)), (2, .pointer (some ⟨b3, 0, none⟩)), (6, .pointer (some ⟨b2, 33, none⟩))]) (by kernel_rfl) ?_
  refine OpsT.cons (Does.yi (Yl.load (d := 7) (T := 4) (v := .bool a0.ok) (by kernel_rfl) (ldB ty4 (l := c_WireGot_api_Digest a0) (o := 33) (v := .bool a0.ok) (pick2 _ _ _) (seg_get [cA (Value.int .u8) a0.x, ([.string a0.rest] : List Value), ([.bool a0.ok] : List Value)] 2 (by simp [c_WireGot_api_Digest, cA_length, hl1]) (by simp [c_WireGot_api_Digest, cA_length, hl1]) rfl))) hI ?_)
  refine OpsT.pures (r := []) [2] [1, 2, 8] (S' := [(1, .pointer (some ⟨b2, 0, none⟩)), (2, .pointer (some ⟨b3, 0, none⟩)), (8, .bool (!a0.ok))]) (by kernel_rfl) ?_
  refine OpsT.done ?_
  refine Qn.then ?_
  by_cases hb4 : (!a0.ok) = true
  · rw [if_pos hb4] at h0
    refine CodT.yes' (b := !a0.ok) (by kernel_rfl) hb4 ?_
    refine CodT.seq ?_
    refine CodT.regionL [0] (by kernel_rfl) ?_
    refine OpsT.cons (Does.allocL (d := 5) (T := 24) (cA (Value.int .u8) (List.replicate 32 (0 : Int))) (by kernel_rfl) ty24 hI (by kernel_rfl) ?_)
    intro b5 w hI
    refine OpsT.done ?_
    refine Qn.then ?_
    refine CodT.seq ?_
    refine CodT.regionL [0, 1, 2, 3] (by kernel_rfl) ?_
    refine OpsT.cons (Does.yi (Yl.load (d := 9) (T := 24) (v := .agg (cA (Value.int .u8) (List.replicate 32 (0 : Int))).toArray) (by kernel_rfl) (ldBN ty24 (l := cA (Value.int .u8) (List.replicate 32 (0 : Int))) (o := 0) (cs := cA (Value.int .u8) (List.replicate 32 (0 : Int))) (ent_refl _) ((cA_length _ _).trans (by kernel_rfl)) (whole _ _ ((cA_length _ _).trans (by kernel_rfl))))) hI ?_)
    have hI := hI.mono (pick2 _ _ _)
    refine OpsT.cons (Does.storeAll (T := 24) (b := b3) (n := 32) (xs := (List.replicate 32 (0 : Int))) (ys := (List.replicate 32 (0 : Int))) (by kernel_rfl) ty24 hI (fun _ => rfl) (by kernel_rfl) (by kernel_rfl) ?_)
    intro w hI
    refine OpsT.pures (r := []) [2, 3] [2, 3, 4] (S' := [(2, .pointer (some ⟨b3, 0, none⟩)), (3, .string (⟨#[]⟩ : ByteArray)), (4, .bool false)]) (by kernel_rfl) ?_
    refine OpsT.done ?_
    refine Qn.then ?_
    refine CodT.ret ?_
    refine Qn.ret_then ?_
    have hL6 := (ldBN ty24 (l := cA (Value.int .u8) (List.replicate 32 (0 : Int))) (o := 0) (cs := cA (Value.int .u8) (List.replicate 32 (0 : Int))) (ent_refl _) ((cA_length _ _).trans (by kernel_rfl)) (whole _ _ ((cA_length _ _).trans (by kernel_rfl)))) w hI
    have hI := hI.drop
    have hI := hI.drop
    have hI := hI.drop
    have e := someS h0
    subst e
    refine Qn.keep [2, 3, 4] (S' := [(2, .pointer (some ⟨b3, 0, none⟩)), (3, .string (⟨#[]⟩ : ByteArray)), (4, .bool false)]) (by kernel_rfl) ?_
    exact post_ret (v := .tuple #[.agg (cA (Value.int .u8) (List.replicate 32 (0 : Int))).toArray, .string (⟨#[]⟩ : ByteArray), .bool false]) (fun a ha => RunRes.run (vs := [.agg (cA (Value.int .u8) (List.replicate 32 (0 : Int))).toArray, .string (⟨#[]⟩ : ByteArray), .bool false]) (.cell (t := 2) (T := 24) (ad := ⟨b3, 0, none⟩) (by kernel_rfl) hL6 (.tmp (t := 3) (by kernel_rfl) (.tmp (t := 4) (by kernel_rfl) .nil))) ha (by kernel_rfl)) ⟨rfl, (by kernel_rfl), hI⟩
  · rw [if_neg hb4] at h0
    refine CodT.no' (b := !a0.ok) (by kernel_rfl) (by simpa using hb4) ?_
    refine CodT.skip ?_
    refine Qn.then ?_
    refine CodT.seq ?_
    refine CodT.drawC (n := 7) (B := (star (pt b2 (.cells (c_WireGot_api_Digest a0).toArray 77 (0, 0))) A)) [] (by kernel_rfl) (by kernel_rfl) hI ?_
    intro w hI
    refine GmT.p' 0 10 (.pointer (some ⟨b2, 0, none⟩)) (by kernel_rfl) (by kernel_rfl) ?_
    refine GmT.p' 2 12 (.pointer (some ⟨b2, 32, none⟩)) (by kernel_rfl) (by kernel_rfl) ?_
    have hC := hI
    have hC := hC.drop
    refine GmT.r (i := 1) 2 (by kernel_rfl) (by kernel_rfl) (Yl.load (d := 11) (T := 24) (v := .agg (cA (Value.int .u8) a0.x).toArray) (by kernel_rfl) (ldBN ty24 (l := c_WireGot_api_Digest a0) (o := 0) (cs := cA (Value.int .u8) a0.x) (ent_refl _) ((cA_length _ _).trans hl1) (seg_take [cA (Value.int .u8) a0.x, ([.string a0.rest] : List Value), ([.bool a0.ok] : List Value)] 0 1 (by simp [c_WireGot_api_Digest, cA_length, hl1]) (by simp [c_WireGot_api_Digest, cA_length, hl1]) (by simp [c_WireGot_api_Digest, cA_length, hl1]) (by simp [c_WireGot_api_Digest, cA_length, hl1])))) hC ?_
    have hC := hI
    have hC := hC.drop
    refine GmT.r (i := 3) 2 (by kernel_rfl) (by kernel_rfl) (Yl.load (d := 13) (T := 9) (v := .string a0.rest) (by kernel_rfl) (ldB ty9 (l := c_WireGot_api_Digest a0) (o := 32) (v := .string a0.rest) (ent_refl _) (seg_get [cA (Value.int .u8) a0.x, ([.string a0.rest] : List Value), ([.bool a0.ok] : List Value)] 1 (by simp [c_WireGot_api_Digest, cA_length, hl1]) (by simp [c_WireGot_api_Digest, cA_length, hl1]) rfl))) hC ?_
    refine GmT.o (i := 4) (by kernel_rfl) (Does.storeAll (T := 24) (b := b3) (n := 32) (xs := (List.replicate 32 (0 : Int))) (ys := a0.x) (by kernel_rfl) ty24 hI (fun _ => rfl) (by kernel_rfl) hl1 ?_)
    intro w hI
    have hC := hI
    have hC := hC.drop
    refine ⟨fun _ _ => hC, ?_⟩
    refine GmT.p' 5 3 (.string a0.rest) (by kernel_rfl) (by kernel_rfl) ?_
    refine GmT.p' 6 4 (.bool true) (by kernel_rfl) (by kernel_rfl) ?_
    refine GmT.done (by kernel_rfl) ?_
    refine Qn.then ?_
    refine CodT.ret ?_
    have hL7 := (ldBN ty24 (l := cA (Value.int .u8) a0.x) (o := 0) (cs := cA (Value.int .u8) a0.x) (ent_refl _) ((cA_length _ _).trans hl1) (whole _ _ ((cA_length _ _).trans hl1))) w hI
    have hI := hI.drop
    have hI := hI.drop
    have e := someS h0
    subst e
    refine Qn.keep [2, 3, 4] (S' := [(2, .pointer (some ⟨b3, 0, none⟩)), (3, .string a0.rest), (4, .bool true)]) (by kernel_rfl) ?_
    exact post_ret (v := .tuple #[.agg (cA (Value.int .u8) a0.x).toArray, .string a0.rest, .bool true]) (fun a ha => RunRes.run (vs := [.agg (cA (Value.int .u8) a0.x).toArray, .string a0.rest, .bool true]) (.cell (t := 2) (T := 24) (ad := ⟨b3, 0, none⟩) (by kernel_rfl) hL7 (.tmp (t := 3) (by kernel_rfl) (.tmp (t := 4) (by kernel_rfl) .nil))) ha (by kernel_rfl)) ⟨rfl, hl1, hI⟩
end Go.Cen
