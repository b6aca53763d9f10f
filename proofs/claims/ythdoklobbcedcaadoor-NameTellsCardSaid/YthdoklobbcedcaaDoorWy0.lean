/- That the machine computes these: walks, printed by a program of ours. -/
import Derived.Test.YthdoklobbcedcaaDoorPy
import Derived.Test.YthdoklobbcedcaaDoorProg
import Derived.Laws.Externs
set_option linter.unusedVariables false
set_option linter.unusedSimpArgs false
namespace Go.Cen
noncomputable abbrev prog := Go.Proofs.Tryd.prog
def Tabs (Z : Hp) : Prop := RdS Z (cI .u8) 1 (some ⟨0, 0, none⟩) 256 tab0 ∧ RdS Z c_Utf8AcceptRange 2 (some ⟨1, 0, none⟩) 16 tab1 ∧ True
theorem Tabs.mono {Z Z' : Hp} (h : Tabs Z) (le : Z.le Z') : Tabs Z' := ⟨h.1.mono le, h.2.1.mono le, trivial⟩
theorem ty3 : Ty prog 3 false 1 8 (.int .i64 0) := ⟨by kernel_rfl, by kernel_rfl⟩
theorem ty5 : Ty prog 5 false 1 1 (.int .u8 0) := ⟨by kernel_rfl, by kernel_rfl⟩
theorem ty21 : Ty prog 21 false 1 4 (.int .i32 0) := ⟨by kernel_rfl, by kernel_rfl⟩
theorem ty31 : Ty prog 31 false 1 24 (.slice none 0 0) := ⟨by kernel_rfl, by kernel_rfl⟩
theorem ty40 : Ty prog 40 false 1 8 (.pointer none) := ⟨by kernel_rfl, by kernel_rfl⟩
theorem ty42 : Ty prog 42 true 2 32 (.agg (([.pointer none, .slice none 0 0] : List Value)).toArray) := ⟨by kernel_rfl, by kernel_rfl⟩
theorem ty65 : Ty prog 65 true 2 2 (.agg (([.int .u8 0, .int .u8 0] : List Value)).toArray) := ⟨by kernel_rfl, by kernel_rfl⟩
theorem en4 : ∀ (args : Array Value) (w : World), (callFunc 4 args).run prog w = .ok (.enter 4 args) w := fun _ _ => by kernel_rfl
theorem en5 : ∀ (args : Array Value) (w : World), (callFunc 5 args).run prog w = .ok (.enter 5 args) w := fun _ _ => by kernel_rfl
theorem en6 : ∀ (args : Array Value) (w : World), (callFunc 6 args).run prog w = .ok (.enter 6 args) w := fun _ _ => by kernel_rfl
theorem en7 : ∀ (args : Array Value) (w : World), (callFunc 7 args).run prog w = .ok (.enter 7 args) w := fun _ _ => by kernel_rfl
theorem en8 : ∀ (args : Array Value) (w : World), (callFunc 8 args).run prog w = .ok (.enter 8 args) w := fun _ _ => by kernel_rfl
theorem en9 : ∀ (args : Array Value) (w : World), (callFunc 9 args).run prog w = .ok (.enter 9 args) w := fun _ _ => by kernel_rfl
theorem en10 : ∀ (args : Array Value) (w : World), (callFunc 10 args).run prog w = .ok (.enter 10 args) w := fun _ _ => by kernel_rfl
theorem en11 : ∀ (args : Array Value) (w : World), (callFunc 11 args).run prog w = .ok (.enter 11 args) w := fun _ _ => by kernel_rfl
theorem en12 : ∀ (args : Array Value) (w : World), (callFunc 12 args).run prog w = .ok (.enter 12 args) w := fun _ _ => by kernel_rfl
theorem en13 : ∀ (args : Array Value) (w : World), (callFunc 13 args).run prog w = .ok (.enter 13 args) w := fun _ _ => by kernel_rfl
theorem en14 : ∀ (args : Array Value) (w : World), (callFunc 14 args).run prog w = .ok (.enter 14 args) w := fun _ _ => by kernel_rfl
theorem en15 : ∀ (args : Array Value) (w : World), (callFunc 15 args).run prog w = .ok (.enter 15 args) w := fun _ _ => by kernel_rfl
theorem en16 : ∀ (args : Array Value) (w : World), (callFunc 16 args).run prog w = .ok (.enter 16 args) w := fun _ _ => by kernel_rfl
theorem en17 : ∀ (args : Array Value) (w : World), (callFunc 17 args).run prog w = .ok (.enter 17 args) w := fun _ _ => by kernel_rfl
theorem en18 : ∀ (args : Array Value) (w : World), (callFunc 18 args).run prog w = .ok (.enter 18 args) w := fun _ _ => by kernel_rfl
theorem en19 : ∀ (args : Array Value) (w : World), (callFunc 19 args).run prog w = .ok (.enter 19 args) w := fun _ _ => by kernel_rfl
theorem en20 : ∀ (args : Array Value) (w : World), (callFunc 20 args).run prog w = .ok (.enter 20 args) w := fun _ _ => by kernel_rfl
theorem en21 : ∀ (args : Array Value) (w : World), (callFunc 21 args).run prog w = .ok (.enter 21 args) w := fun _ _ => by kernel_rfl
theorem en22 : ∀ (args : Array Value) (w : World), (callFunc 22 args).run prog w = .ok (.enter 22 args) w := fun _ _ => by kernel_rfl
theorem en23 : ∀ (args : Array Value) (w : World), (callFunc 23 args).run prog w = .ok (.enter 23 args) w := fun _ _ => by kernel_rfl
theorem en24 : ∀ (args : Array Value) (w : World), (callFunc 24 args).run prog w = .ok (.enter 24 args) w := fun _ _ => by kernel_rfl
theorem en25 : ∀ (args : Array Value) (w : World), (callFunc 25 args).run prog w = .ok (.enter 25 args) w := fun _ _ => by kernel_rfl
theorem en26 : ∀ (args : Array Value) (w : World), (callFunc 26 args).run prog w = .ok (.enter 26 args) w := fun _ _ => by kernel_rfl
theorem en27 : ∀ (args : Array Value) (w : World), (callFunc 27 args).run prog w = .ok (.enter 27 args) w := fun _ _ => by kernel_rfl
theorem en28 : ∀ (args : Array Value) (w : World), (callFunc 28 args).run prog w = .ok (.enter 28 args) w := fun _ _ => by kernel_rfl
theorem en29 : ∀ (args : Array Value) (w : World), (callFunc 29 args).run prog w = .ok (.enter 29 args) w := fun _ _ => by kernel_rfl
theorem en30 : ∀ (args : Array Value) (w : World), (callFunc 30 args).run prog w = .ok (.enter 30 args) w := fun _ _ => by kernel_rfl
theorem en31 : ∀ (args : Array Value) (w : World), (callFunc 31 args).run prog w = .ok (.enter 31 args) w := fun _ _ => by kernel_rfl
theorem en32 : ∀ (args : Array Value) (w : World), (callFunc 32 args).run prog w = .ok (.enter 32 args) w := fun _ _ => by kernel_rfl
theorem en33 : ∀ (args : Array Value) (w : World), (callFunc 33 args).run prog w = .ok (.enter 33 args) w := fun _ _ => by kernel_rfl
theorem en34 : ∀ (args : Array Value) (w : World), (callFunc 34 args).run prog w = .ok (.enter 34 args) w := fun _ _ => by kernel_rfl
theorem en35 : ∀ (args : Array Value) (w : World), (callFunc 35 args).run prog w = .ok (.enter 35 args) w := fun _ _ => by kernel_rfl
theorem en36 : ∀ (args : Array Value) (w : World), (callFunc 36 args).run prog w = .ok (.enter 36 args) w := fun _ _ => by kernel_rfl
theorem en37 : ∀ (args : Array Value) (w : World), (callFunc 37 args).run prog w = .ok (.enter 37 args) w := fun _ _ => by kernel_rfl
theorem en39 : ∀ (args : Array Value) (w : World), (callFunc 39 args).run prog w = .ok (.enter 39 args) w := fun _ _ => by kernel_rfl
theorem en40 : ∀ (args : Array Value) (w : World), (callFunc 40 args).run prog w = .ok (.enter 40 args) w := fun _ _ => by kernel_rfl
theorem ext38 (v : Value) (w : World) : (callFunc 38 #[v]).run prog w = .ok (.value v) w := by kernel_rfl
theorem ext41 (s : ByteArray) (c : Int) (w : World) : (callFunc 41 #[.string s, .int .u8 c]).run prog w = .ok (.value (.int .i64 (idxByte s c))) w := by
  rw [run_callFunc_extern Go.Proofs.Tryd.func41 (by kernel_rfl) (by kernel_rfl) (by kernel_rfl) (e := Extern.BytealgIndexByte.indexByte) (by kernel_rfl), run_indexByte_string]
  rfl

set_option maxRecDepth 100000 in
set_option maxHeartbeats 4000000 in
/-- (*strings.Builder).copyCheck -/
theorem c32 (w0 w : World) (Z : Hp) (A : HP)  (hT : Tabs Z) (b_a0 : Nat) (a0_v_addr : Bool) (A_a0_v_buf : Option Addr) (c_a0_v_buf : Nat) (a0_v_buf : (List Int)) (hI : Inv w0 Z w (star (pt b_a0 (.cells ((([selfP b_a0 a0_v_addr, .slice A_a0_v_buf a0_v_buf.length c_a0_v_buf] : List Value))).toArray 42 (0, 0))) (star (ownS 5 (cI .u8) 1 A_a0_v_buf c_a0_v_buf a0_v_buf) A))) (r : (Bool × (List Int))) (h0 : strings_Builder_copyCheck a0_v_addr a0_v_buf = some r) :
    Calls prog 32 #[.pointer (some ⟨b_a0, 0, none⟩)] w (fun e w' => ∃ (A1 : Option Addr) (c1 : Nat), e = .returned (.tuple #[]) ∧ Inv w0 Z w' (star (pt b_a0 (.cells ((([selfP b_a0 r.1, .slice A1 r.2.length c1] : List Value))).toArray 42 (0, 0))) (star (ownS 5 (cI .u8) 1 A1 c1 r.2) A))) := by
  have e4 := calls_intro (R := (fun e w' => ∃ (A1 : Option Addr) (c1 : Nat), e = .returned (.tuple #[]) ∧ Inv w0 Z w' (star (pt b_a0 (.cells ((([selfP b_a0 r.1, .slice A1 r.2.length c1] : List Value))).toArray 42 (0, 0))) (star (ownS 5 (cI .u8) 1 A1 c1 r.2) A)))) (w := w) (args := [.pointer (some ⟨b_a0, 0, none⟩)]) (fn := Go.Proofs.Tryd.f32) 20 Go.Proofs.Tryd.func32 (by rfl) Go.Proofs.Tryd.ntmps32 (by kernel_rfl)
  refine e4 ?_
  clear e4
  unfold strings_Builder_copyCheck at h0
  refine CodT.seq ?_
  refine CodT.regionL [0, 1, 2, 3, 4] (by kernel_rfl) ?_
  refine OpsT.pures (r := [3, 4]) [0, 1, 2] [0, 4] (S' := [(0, .pointer (some ⟨b_a0, 0, none⟩)), (4, .pointer (some ⟨b_a0, 0, none⟩))]) (by kernel_rfl) ?_
  refine OpsT.cons (Does.yi (Yl.load (d := 5) (T := 40) (v := selfP b_a0 a0_v_addr) (by kernel_rfl) (ldB ty40 (l := (([selfP b_a0 a0_v_addr, .slice A_a0_v_buf a0_v_buf.length c_a0_v_buf] : List Value))) (o := 0) (v := selfP b_a0 a0_v_addr) (ent_refl _) (by kernel_rfl))) hI ?_)
  refine OpsT.cons (Does.yi (Yl.eqlSelf (d := 6) (T := 40) (b := b_a0) (t := a0_v_addr) (by kernel_rfl) Go.Proofs.Tryd.underlying40 (by kernel_rfl)) hI ?_)
  refine OpsT.done ?_
  refine Qn.then ?_
  by_cases hb1 : (!a0_v_addr) = true
  · rw [if_pos hb1] at h0
    refine CodT.yes' (b := !a0_v_addr) (by kernel_rfl) hb1 ?_
    refine CodT.regionL [0, 1, 2, 3, 4, 5, 6, 7] (by kernel_rfl) ?_
    refine OpsT.pures (r := [2, 3, 4, 5, 6, 7]) [0, 1] [7, 8] (S' := [(7, .pointer (some ⟨b_a0, 0, none⟩)), (8, .pointer (some ⟨b_a0, 0, none⟩))]) (by kernel_rfl) ?_
    refine OpsT.cons (Does.yi (Yl.toUns (d := 9) (src := 40) (dst := 60) (b := b_a0) (l := (([selfP b_a0 a0_v_addr, .slice A_a0_v_buf a0_v_buf.length c_a0_v_buf] : List Value))) (by kernel_rfl) Go.Proofs.Tryd.underlying40 Go.Proofs.Tryd.underlying60 ty42 (by kernel_rfl) (by kernel_rfl) (fun w hC => (hC.mono (ent_refl _)).block)) hI ?_)
    refine OpsT.cons (Does.ext (d := some 10) (n := 38) (vs := [.pointer (some ⟨b_a0, 0, none⟩)]) (by kernel_rfl) (ext38 _ _) ?_)
    refine OpsT.cons (Does.yi (Yl.fromUns (d := 11) (src := 60) (dst := 40) (b := b_a0) (l := (([selfP b_a0 a0_v_addr, .slice A_a0_v_buf a0_v_buf.length c_a0_v_buf] : List Value))) 2 (by kernel_rfl) Go.Proofs.Tryd.underlying60 Go.Proofs.Tryd.underlying40 ty42 (by kernel_rfl) (by kernel_rfl) (fun w hC => (hC.mono (ent_refl _)).block)) hI ?_)
    refine OpsT.pures (r := [7]) [5, 6] [11, 13] (S' := [(11, .pointer (some ⟨b_a0, 0, none⟩)), (13, .pointer (some ⟨b_a0, 0, none⟩))]) (by kernel_rfl) ?_
    refine OpsT.cons (Does.storeLit (T := 40) (b := b_a0) (o := 0) (v := .pointer (some ⟨b_a0, 0, none⟩)) (l := (([selfP b_a0 a0_v_addr, .slice A_a0_v_buf a0_v_buf.length c_a0_v_buf] : List Value))) (vs := ([.pointer (some ⟨b_a0, 0, none⟩)] : List Value)) (L' := (([selfP b_a0 true, .slice A_a0_v_buf a0_v_buf.length c_a0_v_buf] : List Value))) (by kernel_rfl) ty40 hI (by kernel_rfl) (by kernel_rfl) (by kernel_rfl) (by kernel_rfl) (by kernel_rfl) ?_)
    intro w hI
    refine OpsT.done ?_
    have e := someS h0
    subst e
    refine Qn.keep [] (S' := []) (by kernel_rfl) ?_
    exact post_normal (v := .tuple #[]) (fun a ha => RunRes.run (vs := []) .nil ha (by kernel_rfl)) ⟨A_a0_v_buf, c_a0_v_buf, rfl, hI⟩
  · rw [if_neg hb1] at h0
    refine CodT.no' (b := !a0_v_addr) (by kernel_rfl) (by simpa using hb1) ?_
    refine CodT.seq ?_
    refine CodT.regionL [0, 1, 2, 3, 4, 5] (by kernel_rfl) ?_
    refine OpsT.pures (r := [3, 4, 5]) [0, 1, 2] [0, 16] (S' := [(0, .pointer (some ⟨b_a0, 0, none⟩)), (16, .pointer (some ⟨b_a0, 0, none⟩))]) (by kernel_rfl) ?_
    refine OpsT.cons (Does.yi (Yl.load (d := 17) (T := 40) (v := selfP b_a0 a0_v_addr) (by kernel_rfl) (ldB ty40 (l := (([selfP b_a0 a0_v_addr, .slice A_a0_v_buf a0_v_buf.length c_a0_v_buf] : List Value))) (o := 0) (v := selfP b_a0 a0_v_addr) (ent_refl _) (by kernel_rfl))) hI ?_)
    refine OpsT.pures (r := [5]) [4] [17, 18] (S' := [(17, selfP b_a0 a0_v_addr), (18, .pointer (some ⟨b_a0, 0, none⟩))]) (by kernel_rfl) ?_
    refine OpsT.cons (Does.yi (Yl.neqSelf (d := 19) (T := 40) (b := b_a0) (t := a0_v_addr) (by kernel_rfl) Go.Proofs.Tryd.underlying40 ty42 (by kernel_rfl)) hI ?_)
    refine OpsT.done ?_
    refine Qn.then ?_
    by_cases hb2 : (!a0_v_addr) = true
    · rw [if_pos hb2] at h0
      refine CodT.yes' (b := !a0_v_addr) (by kernel_rfl) hb2 ?_
      cases h0
    · rw [if_neg hb2] at h0
      refine CodT.no' (b := !a0_v_addr) (by kernel_rfl) (by simpa using hb2) ?_
      refine CodT.skip ?_
      have e := someS h0
      subst e
      refine Qn.keep [] (S' := []) (by kernel_rfl) ?_
      exact post_normal (v := .tuple #[]) (fun a ha => RunRes.run (vs := []) .nil ha (by kernel_rfl)) ⟨A_a0_v_buf, c_a0_v_buf, rfl, hI⟩
set_option maxRecDepth 100000 in
set_option maxHeartbeats 4000000 in
/-- (*strings.Builder).WriteByte -/
theorem c22 (w0 w : World) (Z : Hp) (A : HP)  (hT : Tabs Z) (b_a0 : Nat) (a0_v_addr : Bool) (A_a0_v_buf : Option Addr) (c_a0_v_buf : Nat) (a0_v_buf : (List Int)) (a1 : Int) (hI : Inv w0 Z w (star (pt b_a0 (.cells ((([selfP b_a0 a0_v_addr, .slice A_a0_v_buf a0_v_buf.length c_a0_v_buf] : List Value))).toArray 42 (0, 0))) (star (ownS 5 (cI .u8) 1 A_a0_v_buf c_a0_v_buf a0_v_buf) A))) (r : (Dyn44 × Bool × (List Int))) (h0 : strings_Builder_WriteByte a0_v_addr a0_v_buf a1 = some r) :
    Calls prog 22 #[.pointer (some ⟨b_a0, 0, none⟩), .int .u8 a1] w (fun e w' => ∃ (A1 : Option Addr) (c1 : Nat), e = .returned (dynV44 r.1) ∧ Inv w0 Z w' (star (pt b_a0 (.cells ((([selfP b_a0 r.2.1, .slice A1 r.2.2.length c1] : List Value))).toArray 42 (0, 0))) (star (ownS 5 (cI .u8) 1 A1 c1 r.2.2) A))) := by
  have e4 := calls_intro (R := (fun e w' => ∃ (A1 : Option Addr) (c1 : Nat), e = .returned (dynV44 r.1) ∧ Inv w0 Z w' (star (pt b_a0 (.cells ((([selfP b_a0 r.2.1, .slice A1 r.2.2.length c1] : List Value))).toArray 42 (0, 0))) (star (ownS 5 (cI .u8) 1 A1 c1 r.2.2) A)))) (w := w) (args := [.pointer (some ⟨b_a0, 0, none⟩), .int .u8 a1]) (fn := Go.Proofs.Tryd.f22) 17 Go.Proofs.Tryd.func22 (by rfl) Go.Proofs.Tryd.ntmps22 (by kernel_rfl)
  refine e4 ?_
  clear e4
  unfold strings_Builder_WriteByte at h0
  refine CodT.seq ?_
  refine CodT.regionL [0] (by kernel_rfl) ?_
  refine OpsT.pures (r := []) [0] [0, 1] (S' := [(0, .pointer (some ⟨b_a0, 0, none⟩)), (1, .int .u8 a1)]) (by kernel_rfl) ?_
  refine OpsT.done ?_
  refine Qn.then ?_
  refine CodT.seq ?_
  refine CodT.regionL [0, 1] (by kernel_rfl) ?_
  refine OpsT.pures (r := [1]) [0] [0, 1, 5] (S' := [(0, .pointer (some ⟨b_a0, 0, none⟩)), (1, .int .u8 a1), (5, .pointer (some ⟨b_a0, 0, none⟩))]) (by kernel_rfl) ?_
  have hI := hI.mono (pick2 _ _ _)
  have hI := hI.mono (pick2 _ _ _)
  obtain ⟨⟨y2, y3⟩, hc1, h0⟩ := bindS h0
  try dsimp only at h0
  refine OpsT.cons (Does.call (d := some 6) (n := 32) (vs := [.pointer (some ⟨b_a0, 0, none⟩)]) (by kernel_rfl) en32 (c32 w0 w _ _ hT b_a0 a0_v_addr A_a0_v_buf c_a0_v_buf a0_v_buf hI _ hc1) ?_)
  rintro e w ⟨A4, cp5, rfl, hI⟩
  refine ⟨_, rfl, ?_⟩
  refine OpsT.done ?_
  refine Qn.then ?_
  refine CodT.seq ?_
  refine CodT.regionL [0, 1, 2, 3, 4, 5, 6, 7, 8, 9, 10] (by kernel_rfl) ?_
  refine OpsT.pures (r := [4, 5, 6, 7, 8, 9, 10]) [0, 1, 2, 3] [1, 7, 10] (S' := [(1, .int .u8 a1), (7, .pointer (some ⟨b_a0, 0, none⟩)), (10, .pointer (some ⟨b_a0, 1, none⟩))]) (by kernel_rfl) ?_
  refine OpsT.cons (Does.yi (Yl.load (d := 11) (T := 31) (v := .slice A4 y3.length cp5) (by kernel_rfl) (ldB ty31 (l := (([selfP b_a0 y2, .slice A4 y3.length cp5] : List Value))) (o := 1) (v := .slice A4 y3.length cp5) (ent_refl _) (by kernel_rfl))) hI ?_)
  refine OpsT.pures (r := [6, 7, 8, 9, 10]) [5] [7, 11, 12] (S' := [(7, .pointer (some ⟨b_a0, 0, none⟩)), (11, .slice A4 y3.length cp5), (12, .int .u8 a1)]) (by kernel_rfl) ?_
  refine OpsT.cons (Does.buildSlice (en := (cI .u8)) (d := 13) (n := 1) (T := 31) (ps := [(0, .int .u8 a1)]) ([a1] : List Int) (by kernel_rfl) Go.Proofs.Tryd.underlying31 ty5 (by kernel_rfl) (by kernel_rfl) (by kernel_rfl) (by kernel_rfl) (len_all (fun _ => rfl)) hI ?_)
  intro b6 w hI
  obtain ⟨hg7, h0⟩ := guardS h0
  have hI := hI.mono (pick3 _ _ _ _)
  refine OpsT.cons (Does.append (d := 14) (t := 31) (tx := 31) (ty := 31) (ys := y3) (zs := ([a1] : List Int)) (x := .slice (some ⟨b6, 0, none⟩) (([a1] : List Int).length) 1) (by kernel_rfl) Go.Proofs.Tryd.underlying31 ty5 (by kernel_rfl) hI (src_own Go.Proofs.Tryd.underlying31 (hI.mono (pick2 _ _ _)) (one_flat _ (fun _ => rfl))) (ownS_facts (hI.mono (pick2 _ _ _))).2.2 (by unfold LIM at hg7; omega) hg7 ?_)
  intro A8 cp9 w hI
  refine OpsT.pures (r := [10]) [8, 9] [14, 16] (S' := [(14, .slice A8 ((y3 ++ ([a1] : List Int)).length) cp9), (16, .pointer (some ⟨b_a0, 1, none⟩))]) (by kernel_rfl) ?_
  have hI := hI.mono (pick3 _ _ _ _)
  refine OpsT.cons (Does.storeLit (T := 31) (b := b_a0) (o := 1) (v := .slice A8 ((y3 ++ ([a1] : List Int)).length) cp9) (l := (([selfP b_a0 y2, .slice A4 y3.length cp5] : List Value))) (vs := ([.slice A8 ((y3 ++ ([a1] : List Int)).length) cp9] : List Value)) (L' := (([selfP b_a0 y2, .slice A8 ((y3 ++ ([a1] : List Int)).length) cp9] : List Value))) (by kernel_rfl) ty31 hI (by kernel_rfl) (by kernel_rfl) (by kernel_rfl) (by kernel_rfl) (by kernel_rfl) ?_)
  intro w hI
  refine OpsT.done ?_
  refine Qn.then ?_
  refine CodT.seq ?_
  refine CodT.regionL [0] (by kernel_rfl) ?_
  refine OpsT.pures (r := []) [0] [4] (S' := [(4, .nilIface)]) (by kernel_rfl) ?_
  refine OpsT.done ?_
  refine Qn.then ?_
  refine CodT.ret ?_
  have hI := hI.mono (pick3 _ _ _ _)
  have hI := hI.drop
  have e := someS h0
  subst e
  refine Qn.keep [4] (S' := [(4, .nilIface)]) (by kernel_rfl) ?_
  exact post_ret (v := .nilIface) (fun a ha => RunRes.run (vs := [.nilIface]) (.tmp (t := 4) (by kernel_rfl) .nil) ha (by kernel_rfl)) ⟨A8, cp9, rfl, hI⟩
set_option maxRecDepth 100000 in
set_option maxHeartbeats 4000000 in
/-- unicode/utf8.appendRuneNonASCII -/
theorem c39 (w0 w : World) (Z : Hp) (A : HP)  (hT : Tabs Z) (A_a0 : Option Addr) (c_a0 : Nat) (a0 : (List Int)) (a1 : Int) (hI : Inv w0 Z w (star (ownS 5 (cI .u8) 1 A_a0 c_a0 a0) A)) (r : (List Int)) (h0 : utf8_appendRuneNonASCII a0 a1 = some r) :
    Calls prog 39 #[.slice A_a0 a0.length c_a0, .int .i32 a1] w (fun e w' => ∃ (A1 : Option Addr) (c1 : Nat), e = .returned (.slice A1 r.length c1) ∧ Inv w0 Z w' (star (ownS 5 (cI .u8) 1 A1 c1 r) A)) := by
  have e4 := calls_intro (R := (fun e w' => ∃ (A1 : Option Addr) (c1 : Nat), e = .returned (.slice A1 r.length c1) ∧ Inv w0 Z w' (star (ownS 5 (cI .u8) 1 A1 c1 r) A))) (w := w) (args := [.slice A_a0 a0.length c_a0, .int .i32 a1]) (fn := Go.Proofs.Tryd.f39) 78 Go.Proofs.Tryd.func39 (by rfl) Go.Proofs.Tryd.ntmps39 (by kernel_rfl)
  refine e4 ?_
  clear e4
  unfold utf8_appendRuneNonASCII at h0
  refine CodT.seq ?_
  refine CodT.regionL [0] (by kernel_rfl) ?_
  refine OpsT.pures (r := []) [0] [0, 1] (S' := [(0, .slice A_a0 a0.length c_a0), (1, .int .i32 a1)]) (by kernel_rfl) ?_
  refine OpsT.done ?_
  refine Qn.then ?_
  refine CodT.seq ?_
  refine CodT.regionL [0, 1, 2] (by kernel_rfl) ?_
  refine OpsT.pures (r := []) [0, 1, 2] [0, 1, 5] (S' := [(0, .slice A_a0 a0.length c_a0), (1, .int .i32 a1), (5, .int .u32 (wu32 a1))]) (by kernel_rfl) ?_
  refine OpsT.done ?_
  refine Qn.then ?_
  refine CodT.block ?_
  refine CodT.seq ?_
  refine CodT.regionL [0, 1, 2] (by kernel_rfl) ?_
  refine OpsT.pures (r := []) [0, 1, 2] [0, 1, 5, 11] (S' := [(0, .slice A_a0 a0.length c_a0), (1, .int .i32 a1), (5, .int .u32 (wu32 a1)), (11, .bool (decide ((wu32 a1) ≤ 2047)))]) (by kernel_rfl) ?_
  refine OpsT.done ?_
  refine Qn.then ?_
  by_cases hb1 : (decide ((wu32 a1) ≤ 2047)) = true
  · rw [if_pos hb1] at h0
    refine CodT.yes' (b := decide ((wu32 a1) ≤ 2047)) (by kernel_rfl) hb1 ?_
    refine CodT.seq ?_
    refine CodT.regionL [0, 1, 2, 3, 4, 5, 6, 7, 8, 9, 10, 11] (by kernel_rfl) ?_
    refine OpsT.pures (r := [9, 10, 11]) [0, 1, 2, 3, 4, 5, 6, 7, 8] [14, 18, 22] (S' := [(14, .slice A_a0 a0.length c_a0), (18, .int .u8 (bOr .u8 192 (wu8 (bShr .i32 a1 6)))), (22, .int .u8 (bOr .u8 128 (bAnd .u8 (wu8 a1) 63)))]) (by kernel_rfl) ?_
    refine OpsT.cons (Does.buildSlice (en := (cI .u8)) (d := 23) (n := 2) (T := 31) (ps := [(0, .int .u8 (bOr .u8 192 (wu8 (bShr .i32 a1 6)))), (1, .int .u8 (bOr .u8 128 (bAnd .u8 (wu8 a1) 63)))]) ([bOr .u8 192 (wu8 (bShr .i32 a1 6)), bOr .u8 128 (bAnd .u8 (wu8 a1) 63)] : List Int) (by kernel_rfl) Go.Proofs.Tryd.underlying31 ty5 (by kernel_rfl) (by kernel_rfl) (by kernel_rfl) (by kernel_rfl) (len_all (fun _ => rfl)) hI ?_)
    intro b2 w hI
    obtain ⟨hg3, h0⟩ := guardS h0
    have hI := hI.mono (pick2 _ _ _)
    refine OpsT.cons (Does.append (d := 24) (t := 31) (tx := 31) (ty := 31) (ys := a0) (zs := ([bOr .u8 192 (wu8 (bShr .i32 a1 6)), bOr .u8 128 (bAnd .u8 (wu8 a1) 63)] : List Int)) (x := .slice (some ⟨b2, 0, none⟩) (([bOr .u8 192 (wu8 (bShr .i32 a1 6)), bOr .u8 128 (bAnd .u8 (wu8 a1) 63)] : List Int).length) 2) (by kernel_rfl) Go.Proofs.Tryd.underlying31 ty5 (by kernel_rfl) hI (src_own Go.Proofs.Tryd.underlying31 (hI.mono (pick2 _ _ _)) (one_flat _ (fun _ => rfl))) (ownS_facts (hI.mono (pick2 _ _ _))).2.2 (by unfold LIM at hg3; omega) hg3 ?_)
    intro A4 cp5 w hI
    refine OpsT.pures (r := []) [11] [4] (S' := [(4, .slice A4 ((a0 ++ ([bOr .u8 192 (wu8 (bShr .i32 a1 6)), bOr .u8 128 (bAnd .u8 (wu8 a1) 63)] : List Int)).length) cp5)]) (by kernel_rfl) ?_
    refine OpsT.done ?_
    refine Qn.then ?_
    refine CodT.ret ?_
    refine Qn.block_ret ?_
    have hI := hI.mono (pick2 _ _ _)
    have hI := hI.drop
    have e := someS h0
    subst e
    refine Qn.keep [4] (S' := [(4, .slice A4 ((a0 ++ ([bOr .u8 192 (wu8 (bShr .i32 a1 6)), bOr .u8 128 (bAnd .u8 (wu8 a1) 63)] : List Int)).length) cp5)]) (by kernel_rfl) ?_
    exact post_ret (v := .slice A4 ((a0 ++ ([bOr .u8 192 (wu8 (bShr .i32 a1 6)), bOr .u8 128 (bAnd .u8 (wu8 a1) 63)] : List Int)).length) cp5) (fun a ha => RunRes.run (vs := [.slice A4 ((a0 ++ ([bOr .u8 192 (wu8 (bShr .i32 a1 6)), bOr .u8 128 (bAnd .u8 (wu8 a1) 63)] : List Int)).length) cp5]) (.tmp (t := 4) (by kernel_rfl) .nil) ha (by kernel_rfl)) ⟨A4, cp5, rfl, hI⟩
  · rw [if_neg hb1] at h0
    refine CodT.no' (b := decide ((wu32 a1) ≤ 2047)) (by kernel_rfl) (by simpa using hb1) ?_
    obtain ⟨r1, h1, h0⟩ := bindS h0
    refine CodT.meet (fun a w => ∃ (x6 : Bool), x6 = r1 ∧ Fr 78 [(0, .slice A_a0 a0.length c_a0), (1, .int .i32 a1), (5, .int .u32 (wu32 a1)), (25, .bool x6)] a ∧ Inv w0 Z w (star (ownS 5 (cI .u8) 1 A_a0 c_a0 a0) A)) ?_ ?_
    ·
      refine CodT.seq ?_
      refine CodT.regionL [0, 1, 2] (by kernel_rfl) ?_
      refine OpsT.pures (r := []) [0, 1, 2] [0, 1, 5, 25] (S' := [(0, .slice A_a0 a0.length c_a0), (1, .int .i32 a1), (5, .int .u32 (wu32 a1)), (25, .bool (decide ((wu32 a1) < 55296)))]) (by kernel_rfl) ?_
      refine OpsT.done ?_
      refine Qn.then ?_
      by_cases hb7 : (decide ((wu32 a1) < 55296)) = true
      · rw [if_pos hb7] at h1
        refine CodT.yes' (b := decide ((wu32 a1) < 55296)) (by kernel_rfl) hb7 ?_
        refine CodT.skip ?_
        have e := someS h1
        subst e
        exact Qn.thenJ fun a ha => ⟨decide ((wu32 a1) < 55296), rfl, ha.keep [0, 1, 5, 25] (by kernel_rfl), hI⟩
      · rw [if_neg hb7] at h1
        refine CodT.no' (b := decide ((wu32 a1) < 55296)) (by kernel_rfl) (by simpa using hb7) ?_
        refine CodT.regionL [0, 1, 2, 3, 4, 5, 6] (by kernel_rfl) ?_
        refine OpsT.pures (r := [3, 4, 5, 6]) [0, 1, 2] [0, 1, 5, 30] (S' := [(0, .slice A_a0 a0.length c_a0), (1, .int .i32 a1), (5, .int .u32 (wu32 a1)), (30, .bool (decide ((57343 : Int) < (wu32 a1))))]) (by kernel_rfl) ?_
        by_cases hb8 : (decide ((57343 : Int) < (wu32 a1))) = true
        · rw [if_pos hb8] at h1
          refine OpsT.keep [0, 1, 5, 30] (S' := [(0, .slice A_a0 a0.length c_a0), (1, .int .i32 a1), (5, .int .u32 (wu32 a1)), (30, .bool true)]) (by simp only [hb8]; kernel_rfl) ?_
          refine OpsT.pures (r := []) [3, 4, 5, 6] [0, 1, 5, 25] (S' := [(0, .slice A_a0 a0.length c_a0), (1, .int .i32 a1), (5, .int .u32 (wu32 a1)), (25, .bool (decide ((wu32 a1) ≤ 65535)))]) (by kernel_rfl) ?_
          refine OpsT.done ?_
          have e := someS h1
          subst e
          exact Qn.thenJ fun a ha => ⟨decide ((wu32 a1) ≤ 65535), rfl, ha.keep [0, 1, 5, 25] (by kernel_rfl), hI⟩
        · rw [if_neg hb8] at h1
          have hb8 : (decide ((57343 : Int) < (wu32 a1))) = false := by simpa using hb8
          refine OpsT.keep [0, 1, 5, 30] (S' := [(0, .slice A_a0 a0.length c_a0), (1, .int .i32 a1), (5, .int .u32 (wu32 a1)), (30, .bool false)]) (by simp only [hb8]; kernel_rfl) ?_
          refine OpsT.pures (r := []) [3, 4, 5, 6] [0, 1, 5, 25] (S' := [(0, .slice A_a0 a0.length c_a0), (1, .int .i32 a1), (5, .int .u32 (wu32 a1)), (25, .bool false)]) (by kernel_rfl) ?_
          refine OpsT.done ?_
          have e := someS h1
          subst e
          exact Qn.thenJ fun a ha => ⟨false, rfl, ha.keep [0, 1, 5, 25] (by kernel_rfl), hI⟩
    ·
      rintro a w ⟨x6, rfl, ha, hI⟩
      try dsimp only at h0
      refine CodT.of ?_ ha
      by_cases hb9 : x6 = true
      · rw [if_pos hb9] at h0
        refine CodT.yes' (b := x6) (by kernel_rfl) hb9 ?_
        refine CodT.seq ?_
        refine CodT.regionL [0, 1, 2, 3, 4, 5, 6, 7, 8, 9, 10, 11, 12, 13, 14, 15, 16] (by kernel_rfl) ?_
        refine OpsT.pures (r := [14, 15, 16]) [0, 1, 2, 3, 4, 5, 6, 7, 8, 9, 10, 11, 12, 13] [34, 38, 43, 47] (S' := [(34, .slice A_a0 a0.length c_a0), (38, .int .u8 (bOr .u8 224 (wu8 (bShr .i32 a1 12)))), (43, .int .u8 (bOr .u8 128 (bAnd .u8 (wu8 (bShr .i32 a1 6)) 63))), (47, .int .u8 (bOr .u8 128 (bAnd .u8 (wu8 a1) 63)))]) (by kernel_rfl) ?_
        refine OpsT.cons (Does.buildSlice (en := (cI .u8)) (d := 48) (n := 3) (T := 31) (ps := [(0, .int .u8 (bOr .u8 224 (wu8 (bShr .i32 a1 12)))), (1, .int .u8 (bOr .u8 128 (bAnd .u8 (wu8 (bShr .i32 a1 6)) 63))), (2, .int .u8 (bOr .u8 128 (bAnd .u8 (wu8 a1) 63)))]) ([bOr .u8 224 (wu8 (bShr .i32 a1 12)), bOr .u8 128 (bAnd .u8 (wu8 (bShr .i32 a1 6)) 63), bOr .u8 128 (bAnd .u8 (wu8 a1) 63)] : List Int) (by kernel_rfl) Go.Proofs.Tryd.underlying31 ty5 (by kernel_rfl) (by kernel_rfl) (by kernel_rfl) (by kernel_rfl) (len_all (fun _ => rfl)) hI ?_)
        intro b10 w hI
        obtain ⟨hg11, h0⟩ := guardS h0
        have hI := hI.mono (pick2 _ _ _)
        refine OpsT.cons (Does.append (d := 49) (t := 31) (tx := 31) (ty := 31) (ys := a0) (zs := ([bOr .u8 224 (wu8 (bShr .i32 a1 12)), bOr .u8 128 (bAnd .u8 (wu8 (bShr .i32 a1 6)) 63), bOr .u8 128 (bAnd .u8 (wu8 a1) 63)] : List Int)) (x := .slice (some ⟨b10, 0, none⟩) (([bOr .u8 224 (wu8 (bShr .i32 a1 12)), bOr .u8 128 (bAnd .u8 (wu8 (bShr .i32 a1 6)) 63), bOr .u8 128 (bAnd .u8 (wu8 a1) 63)] : List Int).length) 3) (by kernel_rfl) Go.Proofs.Tryd.underlying31 ty5 (by kernel_rfl) hI (src_own Go.Proofs.Tryd.underlying31 (hI.mono (pick2 _ _ _)) (one_flat _ (fun _ => rfl))) (ownS_facts (hI.mono (pick2 _ _ _))).2.2 (by unfold LIM at hg11; omega) hg11 ?_)
        intro A12 cp13 w hI
        refine OpsT.pures (r := []) [16] [4] (S' := [(4, .slice A12 ((a0 ++ ([bOr .u8 224 (wu8 (bShr .i32 a1 12)), bOr .u8 128 (bAnd .u8 (wu8 (bShr .i32 a1 6)) 63), bOr .u8 128 (bAnd .u8 (wu8 a1) 63)] : List Int)).length) cp13)]) (by kernel_rfl) ?_
        refine OpsT.done ?_
        refine Qn.then ?_
        refine CodT.ret ?_
        refine Qn.block_ret ?_
        have hI := hI.mono (pick2 _ _ _)
        have hI := hI.drop
        have e := someS h0
        subst e
        refine Qn.keep [4] (S' := [(4, .slice A12 ((a0 ++ ([bOr .u8 224 (wu8 (bShr .i32 a1 12)), bOr .u8 128 (bAnd .u8 (wu8 (bShr .i32 a1 6)) 63), bOr .u8 128 (bAnd .u8 (wu8 a1) 63)] : List Int)).length) cp13)]) (by kernel_rfl) ?_
        exact post_ret (v := .slice A12 ((a0 ++ ([bOr .u8 224 (wu8 (bShr .i32 a1 12)), bOr .u8 128 (bAnd .u8 (wu8 (bShr .i32 a1 6)) 63), bOr .u8 128 (bAnd .u8 (wu8 a1) 63)] : List Int)).length) cp13) (fun a ha => RunRes.run (vs := [.slice A12 ((a0 ++ ([bOr .u8 224 (wu8 (bShr .i32 a1 12)), bOr .u8 128 (bAnd .u8 (wu8 (bShr .i32 a1 6)) 63), bOr .u8 128 (bAnd .u8 (wu8 a1) 63)] : List Int)).length) cp13]) (.tmp (t := 4) (by kernel_rfl) .nil) ha (by kernel_rfl)) ⟨A12, cp13, rfl, hI⟩
      · rw [if_neg hb9] at h0
        refine CodT.no' (b := x6) (by kernel_rfl) (by simpa using hb9) ?_
        obtain ⟨r1, h1, h0⟩ := bindS h0
        refine CodT.meet (fun a w => ∃ (x14 : Bool), x14 = r1 ∧ Fr 78 [(0, .slice A_a0 a0.length c_a0), (1, .int .i32 a1), (50, .bool x14)] a ∧ Inv w0 Z w (star (ownS 5 (cI .u8) 1 A_a0 c_a0 a0) A)) ?_ ?_
        ·
          refine CodT.regionL [0, 1, 2, 3, 4, 5, 6] (by kernel_rfl) ?_
          refine OpsT.pures (r := [3, 4, 5, 6]) [0, 1, 2] [0, 1, 5, 53] (S' := [(0, .slice A_a0 a0.length c_a0), (1, .int .i32 a1), (5, .int .u32 (wu32 a1)), (53, .bool (decide ((wu32 a1) > 65535)))]) (by kernel_rfl) ?_
          by_cases hb15 : (decide ((wu32 a1) > 65535)) = true
          · rw [if_pos hb15] at h1
            refine OpsT.keep [0, 1, 5, 53] (S' := [(0, .slice A_a0 a0.length c_a0), (1, .int .i32 a1), (5, .int .u32 (wu32 a1)), (53, .bool true)]) (by simp only [hb15]; kernel_rfl) ?_
            refine OpsT.pures (r := []) [3, 4, 5, 6] [0, 1, 50] (S' := [(0, .slice A_a0 a0.length c_a0), (1, .int .i32 a1), (50, .bool (decide ((wu32 a1) ≤ 1114111)))]) (by kernel_rfl) ?_
            refine OpsT.done ?_
            have e := someS h1
            subst e
            exact Qn.thenJ fun a ha => ⟨decide ((wu32 a1) ≤ 1114111), rfl, ha.keep [0, 1, 50] (by kernel_rfl), hI⟩
          · rw [if_neg hb15] at h1
            have hb15 : (decide ((wu32 a1) > 65535)) = false := by simpa using hb15
            refine OpsT.keep [0, 1, 5, 53] (S' := [(0, .slice A_a0 a0.length c_a0), (1, .int .i32 a1), (5, .int .u32 (wu32 a1)), (53, .bool false)]) (by simp only [hb15]; kernel_rfl) ?_
            refine OpsT.pures (r := []) [3, 4, 5, 6] [0, 1, 50] (S' := [(0, .slice A_a0 a0.length c_a0), (1, .int .i32 a1), (50, .bool false)]) (by kernel_rfl) ?_
            refine OpsT.done ?_
            have e := someS h1
            subst e
            exact Qn.thenJ fun a ha => ⟨false, rfl, ha.keep [0, 1, 50] (by kernel_rfl), hI⟩
        ·
          rintro a w ⟨x14, rfl, ha, hI⟩
          try dsimp only at h0
          refine CodT.of ?_ ha
          by_cases hb16 : x14 = true
          · rw [if_pos hb16] at h0
            refine CodT.yes' (b := x14) (by kernel_rfl) hb16 ?_
            refine CodT.seq ?_
            refine CodT.regionL [0, 1, 2, 3, 4, 5, 6, 7, 8, 9, 10, 11, 12, 13, 14, 15, 16, 17, 18, 19, 20, 21] (by kernel_rfl) ?_
            refine OpsT.pures (r := [19, 20, 21]) [0, 1, 2, 3, 4, 5, 6, 7, 8, 9, 10, 11, 12, 13, 14, 15, 16, 17, 18] [57, 61, 66, 71, 75] (S' := [(57, .slice A_a0 a0.length c_a0), (61, .int .u8 (bOr .u8 240 (wu8 (bShr .i32 a1 18)))), (66, .int .u8 (bOr .u8 128 (bAnd .u8 (wu8 (bShr .i32 a1 12)) 63))), (71, .int .u8 (bOr .u8 128 (bAnd .u8 (wu8 (bShr .i32 a1 6)) 63))), (75, .int .u8 (bOr .u8 128 (bAnd .u8 (wu8 a1) 63)))]) (by kernel_rfl) ?_
            refine OpsT.cons (Does.buildSlice (en := (cI .u8)) (d := 76) (n := 4) (T := 31) (ps := [(0, .int .u8 (bOr .u8 240 (wu8 (bShr .i32 a1 18)))), (1, .int .u8 (bOr .u8 128 (bAnd .u8 (wu8 (bShr .i32 a1 12)) 63))), (2, .int .u8 (bOr .u8 128 (bAnd .u8 (wu8 (bShr .i32 a1 6)) 63))), (3, .int .u8 (bOr .u8 128 (bAnd .u8 (wu8 a1) 63)))]) ([bOr .u8 240 (wu8 (bShr .i32 a1 18)), bOr .u8 128 (bAnd .u8 (wu8 (bShr .i32 a1 12)) 63), bOr .u8 128 (bAnd .u8 (wu8 (bShr .i32 a1 6)) 63), bOr .u8 128 (bAnd .u8 (wu8 a1) 63)] : List Int) (by kernel_rfl) Go.Proofs.Tryd.underlying31 ty5 (by kernel_rfl) (by kernel_rfl) (by kernel_rfl) (by kernel_rfl) (len_all (fun _ => rfl)) hI ?_)
            intro b17 w hI
            obtain ⟨hg18, h0⟩ := guardS h0
            have hI := hI.mono (pick2 _ _ _)
            refine OpsT.cons (Does.append (d := 77) (t := 31) (tx := 31) (ty := 31) (ys := a0) (zs := ([bOr .u8 240 (wu8 (bShr .i32 a1 18)), bOr .u8 128 (bAnd .u8 (wu8 (bShr .i32 a1 12)) 63), bOr .u8 128 (bAnd .u8 (wu8 (bShr .i32 a1 6)) 63), bOr .u8 128 (bAnd .u8 (wu8 a1) 63)] : List Int)) (x := .slice (some ⟨b17, 0, none⟩) (([bOr .u8 240 (wu8 (bShr .i32 a1 18)), bOr .u8 128 (bAnd .u8 (wu8 (bShr .i32 a1 12)) 63), bOr .u8 128 (bAnd .u8 (wu8 (bShr .i32 a1 6)) 63), bOr .u8 128 (bAnd .u8 (wu8 a1) 63)] : List Int).length) 4) (by kernel_rfl) Go.Proofs.Tryd.underlying31 ty5 (by kernel_rfl) hI (src_own Go.Proofs.Tryd.underlying31 (hI.mono (pick2 _ _ _)) (one_flat _ (fun _ => rfl))) (ownS_facts (hI.mono (pick2 _ _ _))).2.2 (by unfold LIM at hg18; omega) hg18 ?_)
            intro A19 cp20 w hI
            refine OpsT.pures (r := []) [21] [4] (S' := [(4, .slice A19 ((a0 ++ ([bOr .u8 240 (wu8 (bShr .i32 a1 18)), bOr .u8 128 (bAnd .u8 (wu8 (bShr .i32 a1 12)) 63), bOr .u8 128 (bAnd .u8 (wu8 (bShr .i32 a1 6)) 63), bOr .u8 128 (bAnd .u8 (wu8 a1) 63)] : List Int)).length) cp20)]) (by kernel_rfl) ?_
            refine OpsT.done ?_
            refine Qn.then ?_
            refine CodT.ret ?_
            refine Qn.block_ret ?_
            have hI := hI.mono (pick2 _ _ _)
            have hI := hI.drop
            have e := someS h0
            subst e
            refine Qn.keep [4] (S' := [(4, .slice A19 ((a0 ++ ([bOr .u8 240 (wu8 (bShr .i32 a1 18)), bOr .u8 128 (bAnd .u8 (wu8 (bShr .i32 a1 12)) 63), bOr .u8 128 (bAnd .u8 (wu8 (bShr .i32 a1 6)) 63), bOr .u8 128 (bAnd .u8 (wu8 a1) 63)] : List Int)).length) cp20)]) (by kernel_rfl) ?_
            exact post_ret (v := .slice A19 ((a0 ++ ([bOr .u8 240 (wu8 (bShr .i32 a1 18)), bOr .u8 128 (bAnd .u8 (wu8 (bShr .i32 a1 12)) 63), bOr .u8 128 (bAnd .u8 (wu8 (bShr .i32 a1 6)) 63), bOr .u8 128 (bAnd .u8 (wu8 a1) 63)] : List Int)).length) cp20) (fun a ha => RunRes.run (vs := [.slice A19 ((a0 ++ ([bOr .u8 240 (wu8 (bShr .i32 a1 18)), bOr .u8 128 (bAnd .u8 (wu8 (bShr .i32 a1 12)) 63), bOr .u8 128 (bAnd .u8 (wu8 (bShr .i32 a1 6)) 63), bOr .u8 128 (bAnd .u8 (wu8 a1) 63)] : List Int)).length) cp20]) (.tmp (t := 4) (by kernel_rfl) .nil) ha (by kernel_rfl)) ⟨A19, cp20, rfl, hI⟩
          · rw [if_neg hb16] at h0
            refine CodT.no' (b := x14) (by kernel_rfl) (by simpa using hb16) ?_
            refine CodT.seq ?_
            refine CodT.regionL [0, 1, 2, 3] (by kernel_rfl) ?_
            refine OpsT.pures (r := [1, 2, 3]) [0] [8] (S' := [(8, .slice A_a0 a0.length c_a0)]) (by kernel_rfl) ?_
            refine OpsT.cons (Does.buildSlice (en := (cI .u8)) (d := 9) (n := 3) (T := 31) (ps := [(0, .int .u8 239), (1, .int .u8 191), (2, .int .u8 189)]) ([239, 191, 189] : List Int) (by kernel_rfl) Go.Proofs.Tryd.underlying31 ty5 (by kernel_rfl) (by kernel_rfl) (by kernel_rfl) (by kernel_rfl) (len_all (fun _ => rfl)) hI ?_)
            intro b21 w hI
            obtain ⟨hg22, h0⟩ := guardS h0
            have hI := hI.mono (pick2 _ _ _)
            refine OpsT.cons (Does.append (d := 10) (t := 31) (tx := 31) (ty := 31) (ys := a0) (zs := ([239, 191, 189] : List Int)) (x := .slice (some ⟨b21, 0, none⟩) (([239, 191, 189] : List Int).length) 3) (by kernel_rfl) Go.Proofs.Tryd.underlying31 ty5 (by kernel_rfl) hI (src_own Go.Proofs.Tryd.underlying31 (hI.mono (pick2 _ _ _)) (one_flat _ (fun _ => rfl))) (ownS_facts (hI.mono (pick2 _ _ _))).2.2 (by unfold LIM at hg22; omega) hg22 ?_)
            intro A23 cp24 w hI
            refine OpsT.pures (r := []) [3] [4] (S' := [(4, .slice A23 ((a0 ++ ([239, 191, 189] : List Int)).length) cp24)]) (by kernel_rfl) ?_
            refine OpsT.done ?_
            refine Qn.then ?_
            refine CodT.ret ?_
            refine Qn.block_ret ?_
            have hI := hI.mono (pick2 _ _ _)
            have hI := hI.drop
            have e := someS h0
            subst e
            refine Qn.keep [4] (S' := [(4, .slice A23 ((a0 ++ ([239, 191, 189] : List Int)).length) cp24)]) (by kernel_rfl) ?_
            exact post_ret (v := .slice A23 ((a0 ++ ([239, 191, 189] : List Int)).length) cp24) (fun a ha => RunRes.run (vs := [.slice A23 ((a0 ++ ([239, 191, 189] : List Int)).length) cp24]) (.tmp (t := 4) (by kernel_rfl) .nil) ha (by kernel_rfl)) ⟨A23, cp24, rfl, hI⟩
set_option maxRecDepth 100000 in
set_option maxHeartbeats 4000000 in
/-- unicode/utf8.AppendRune -/
theorem c33 (w0 w : World) (Z : Hp) (A : HP)  (hT : Tabs Z) (A_a0 : Option Addr) (c_a0 : Nat) (a0 : (List Int)) (a1 : Int) (hI : Inv w0 Z w (star (ownS 5 (cI .u8) 1 A_a0 c_a0 a0) A)) (r : (List Int)) (h0 : utf8_AppendRune a0 a1 = some r) :
    Calls prog 33 #[.slice A_a0 a0.length c_a0, .int .i32 a1] w (fun e w' => ∃ (A1 : Option Addr) (c1 : Nat), e = .returned (.slice A1 r.length c1) ∧ Inv w0 Z w' (star (ownS 5 (cI .u8) 1 A1 c1 r) A)) := by
  have e4 := calls_intro (R := (fun e w' => ∃ (A1 : Option Addr) (c1 : Nat), e = .returned (.slice A1 r.length c1) ∧ Inv w0 Z w' (star (ownS 5 (cI .u8) 1 A1 c1 r) A))) (w := w) (args := [.slice A_a0 a0.length c_a0, .int .i32 a1]) (fn := Go.Proofs.Tryd.f33) 16 Go.Proofs.Tryd.func33 (by rfl) Go.Proofs.Tryd.ntmps33 (by kernel_rfl)
  refine e4 ?_
  clear e4
  unfold utf8_AppendRune at h0
  refine CodT.seq ?_
  refine CodT.regionL [0] (by kernel_rfl) ?_
  refine OpsT.pures (r := []) [0] [0, 1] (S' := [(0, .slice A_a0 a0.length c_a0), (1, .int .i32 a1)]) (by kernel_rfl) ?_
  refine OpsT.done ?_
  refine Qn.then ?_
  refine CodT.seq ?_
  refine CodT.seq ?_
  refine CodT.regionL [0, 1, 2] (by kernel_rfl) ?_
  refine OpsT.pures (r := []) [0, 1, 2] [0, 1, 7] (S' := [(0, .slice A_a0 a0.length c_a0), (1, .int .i32 a1), (7, .bool (decide ((wu32 a1) ≤ 127)))]) (by kernel_rfl) ?_
  refine OpsT.done ?_
  refine Qn.then ?_
  by_cases hb1 : (decide ((wu32 a1) ≤ 127)) = true
  · rw [if_pos hb1] at h0
    refine CodT.yes' (b := decide ((wu32 a1) ≤ 127)) (by kernel_rfl) hb1 ?_
    refine CodT.seq ?_
    refine CodT.regionL [0, 1, 2, 3, 4, 5] (by kernel_rfl) ?_
    refine OpsT.pures (r := [3, 4, 5]) [0, 1, 2] [8, 10] (S' := [(8, .slice A_a0 a0.length c_a0), (10, .int .u8 (wu8 a1))]) (by kernel_rfl) ?_
    refine OpsT.cons (Does.buildSlice (en := (cI .u8)) (d := 11) (n := 1) (T := 31) (ps := [(0, .int .u8 (wu8 a1))]) ([wu8 a1] : List Int) (by kernel_rfl) Go.Proofs.Tryd.underlying31 ty5 (by kernel_rfl) (by kernel_rfl) (by kernel_rfl) (by kernel_rfl) (len_all (fun _ => rfl)) hI ?_)
    intro b2 w hI
    obtain ⟨hg3, h0⟩ := guardS h0
    have hI := hI.mono (pick2 _ _ _)
    refine OpsT.cons (Does.append (d := 12) (t := 31) (tx := 31) (ty := 31) (ys := a0) (zs := ([wu8 a1] : List Int)) (x := .slice (some ⟨b2, 0, none⟩) (([wu8 a1] : List Int).length) 1) (by kernel_rfl) Go.Proofs.Tryd.underlying31 ty5 (by kernel_rfl) hI (src_own Go.Proofs.Tryd.underlying31 (hI.mono (pick2 _ _ _)) (one_flat _ (fun _ => rfl))) (ownS_facts (hI.mono (pick2 _ _ _))).2.2 (by unfold LIM at hg3; omega) hg3 ?_)
    intro A4 cp5 w hI
    refine OpsT.pures (r := []) [5] [4] (S' := [(4, .slice A4 ((a0 ++ ([wu8 a1] : List Int)).length) cp5)]) (by kernel_rfl) ?_
    refine OpsT.done ?_
    refine Qn.then ?_
    refine CodT.ret ?_
    refine Qn.ret_then ?_
    have hI := hI.mono (pick2 _ _ _)
    have hI := hI.drop
    have e := someS h0
    subst e
    refine Qn.keep [4] (S' := [(4, .slice A4 ((a0 ++ ([wu8 a1] : List Int)).length) cp5)]) (by kernel_rfl) ?_
    exact post_ret (v := .slice A4 ((a0 ++ ([wu8 a1] : List Int)).length) cp5) (fun a ha => RunRes.run (vs := [.slice A4 ((a0 ++ ([wu8 a1] : List Int)).length) cp5]) (.tmp (t := 4) (by kernel_rfl) .nil) ha (by kernel_rfl)) ⟨A4, cp5, rfl, hI⟩
  · rw [if_neg hb1] at h0
    refine CodT.no' (b := decide ((wu32 a1) ≤ 127)) (by kernel_rfl) (by simpa using hb1) ?_
    refine CodT.skip ?_
    refine Qn.then ?_
    refine CodT.seq ?_
    refine CodT.regionL [0, 1, 2, 3] (by kernel_rfl) ?_
    refine OpsT.pures (r := [2, 3]) [0, 1] [13, 14] (S' := [(13, .slice A_a0 a0.length c_a0), (14, .int .i32 a1)]) (by kernel_rfl) ?_
    obtain ⟨y7, hc6, h0⟩ := bindS h0
    try dsimp only at h0
    refine OpsT.cons (Does.call (d := some 15) (n := 39) (vs := [.slice A_a0 a0.length c_a0, .int .i32 a1]) (by kernel_rfl) en39 (c39 w0 w _ _ hT A_a0 c_a0 a0 a1 hI _ hc6) ?_)
    rintro e w ⟨A8, cp9, rfl, hI⟩
    refine ⟨_, rfl, ?_⟩
    refine OpsT.pures (r := []) [3] [4] (S' := [(4, .slice A8 y7.length cp9)]) (by kernel_rfl) ?_
    refine OpsT.done ?_
    refine Qn.then ?_
    refine CodT.ret ?_
    have e := someS h0
    subst e
    refine Qn.keep [4] (S' := [(4, .slice A8 y7.length cp9)]) (by kernel_rfl) ?_
    exact post_ret (v := .slice A8 y7.length cp9) (fun a ha => RunRes.run (vs := [.slice A8 y7.length cp9]) (.tmp (t := 4) (by kernel_rfl) .nil) ha (by kernel_rfl)) ⟨A8, cp9, rfl, hI⟩
set_option maxRecDepth 100000 in
set_option maxHeartbeats 4000000 in
/-- (*strings.Builder).WriteRune -/
theorem c23 (w0 w : World) (Z : Hp) (A : HP)  (hT : Tabs Z) (b_a0 : Nat) (a0_v_addr : Bool) (A_a0_v_buf : Option Addr) (c_a0_v_buf : Nat) (a0_v_buf : (List Int)) (a1 : Int) (hI : Inv w0 Z w (star (pt b_a0 (.cells ((([selfP b_a0 a0_v_addr, .slice A_a0_v_buf a0_v_buf.length c_a0_v_buf] : List Value))).toArray 42 (0, 0))) (star (ownS 5 (cI .u8) 1 A_a0_v_buf c_a0_v_buf a0_v_buf) A))) (r : (Int × Dyn44 × Bool × (List Int))) (h0 : strings_Builder_WriteRune a0_v_addr a0_v_buf a1 = some r) :
    Calls prog 23 #[.pointer (some ⟨b_a0, 0, none⟩), .int .i32 a1] w (fun e w' => ∃ (A1 : Option Addr) (c1 : Nat), e = .returned (.tuple #[.int .i64 r.1, dynV44 r.2.1]) ∧ Inv w0 Z w' (star (pt b_a0 (.cells ((([selfP b_a0 r.2.2.1, .slice A1 r.2.2.2.length c1] : List Value))).toArray 42 (0, 0))) (star (ownS 5 (cI .u8) 1 A1 c1 r.2.2.2) A))) := by
  have e4 := calls_intro (R := (fun e w' => ∃ (A1 : Option Addr) (c1 : Nat), e = .returned (.tuple #[.int .i64 r.1, dynV44 r.2.1]) ∧ Inv w0 Z w' (star (pt b_a0 (.cells ((([selfP b_a0 r.2.2.1, .slice A1 r.2.2.2.length c1] : List Value))).toArray 42 (0, 0))) (star (ownS 5 (cI .u8) 1 A1 c1 r.2.2.2) A)))) (w := w) (args := [.pointer (some ⟨b_a0, 0, none⟩), .int .i32 a1]) (fn := Go.Proofs.Tryd.f23) 30 Go.Proofs.Tryd.func23 (by rfl) Go.Proofs.Tryd.ntmps23 (by kernel_rfl)
  refine e4 ?_
  clear e4
  unfold strings_Builder_WriteRune at h0
  refine CodT.seq ?_
  refine CodT.regionL [0, 1] (by kernel_rfl) ?_
  refine OpsT.pures (r := []) [0, 1] [0, 1] (S' := [(0, .pointer (some ⟨b_a0, 0, none⟩)), (1, .int .i32 a1)]) (by kernel_rfl) ?_
  refine OpsT.done ?_
  refine Qn.then ?_
  refine CodT.seq ?_
  refine CodT.regionL [0, 1] (by kernel_rfl) ?_
  refine OpsT.pures (r := [1]) [0] [0, 1, 7] (S' := [(0, .pointer (some ⟨b_a0, 0, none⟩)), (1, .int .i32 a1), (7, .pointer (some ⟨b_a0, 0, none⟩))]) (by kernel_rfl) ?_
  have hI := hI.mono (pick2 _ _ _)
  have hI := hI.mono (pick2 _ _ _)
  obtain ⟨⟨y2, y3⟩, hc1, h0⟩ := bindS h0
  try dsimp only at h0
  refine OpsT.cons (Does.call (d := some 8) (n := 32) (vs := [.pointer (some ⟨b_a0, 0, none⟩)]) (by kernel_rfl) en32 (c32 w0 w _ _ hT b_a0 a0_v_addr A_a0_v_buf c_a0_v_buf a0_v_buf hI _ hc1) ?_)
  rintro e w ⟨A4, cp5, rfl, hI⟩
  refine ⟨_, rfl, ?_⟩
  refine OpsT.done ?_
  refine Qn.then ?_
  refine CodT.seq ?_
  refine CodT.regionL [0, 1, 2, 3, 4, 5] (by kernel_rfl) ?_
  refine OpsT.pures (r := [3, 4, 5]) [0, 1, 2] [0, 1, 11] (S' := [(0, .pointer (some ⟨b_a0, 0, none⟩)), (1, .int .i32 a1), (11, .pointer (some ⟨b_a0, 1, none⟩))]) (by kernel_rfl) ?_
  refine OpsT.cons (Does.yi (Yl.load (d := 12) (T := 31) (v := .slice A4 y3.length cp5) (by kernel_rfl) (ldB ty31 (l := (([selfP b_a0 y2, .slice A4 y3.length cp5] : List Value))) (o := 1) (v := .slice A4 y3.length cp5) (ent_refl _) (by kernel_rfl))) hI ?_)
  refine OpsT.pures (r := []) [4, 5] [0, 1, 6] (S' := [(0, .pointer (some ⟨b_a0, 0, none⟩)), (1, .int .i32 a1), (6, .int .i64 (y3.length : Int))]) (by kernel_rfl) ?_
  refine OpsT.done ?_
  refine Qn.then ?_
  refine CodT.seq ?_
  refine CodT.regionL [0, 1, 2, 3, 4, 5, 6, 7, 8, 9] (by kernel_rfl) ?_
  refine OpsT.pures (r := [4, 5, 6, 7, 8, 9]) [0, 1, 2, 3] [0, 1, 6, 14, 17] (S' := [(0, .pointer (some ⟨b_a0, 0, none⟩)), (1, .int .i32 a1), (6, .int .i64 (y3.length : Int)), (14, .pointer (some ⟨b_a0, 0, none⟩)), (17, .pointer (some ⟨b_a0, 1, none⟩))]) (by kernel_rfl) ?_
  refine OpsT.cons (Does.yi (Yl.load (d := 18) (T := 31) (v := .slice A4 y3.length cp5) (by kernel_rfl) (ldB ty31 (l := (([selfP b_a0 y2, .slice A4 y3.length cp5] : List Value))) (o := 1) (v := .slice A4 y3.length cp5) (ent_refl _) (by kernel_rfl))) hI ?_)
  refine OpsT.pures (r := [6, 7, 8, 9]) [5] [0, 6, 14, 18, 19] (S' := [(0, .pointer (some ⟨b_a0, 0, none⟩)), (6, .int .i64 (y3.length : Int)), (14, .pointer (some ⟨b_a0, 0, none⟩)), (18, .slice A4 y3.length cp5), (19, .int .i32 a1)]) (by kernel_rfl) ?_
  have hI := hI.mono (pick2 _ _ _)
  obtain ⟨y7, hc6, h0⟩ := bindS h0
  try dsimp only at h0
  refine OpsT.cons (Does.call (d := some 20) (n := 33) (vs := [.slice A4 y3.length cp5, .int .i32 a1]) (by kernel_rfl) en33 (c33 w0 w _ _ hT A4 cp5 y3 a1 hI _ hc6) ?_)
  rintro e w ⟨A8, cp9, rfl, hI⟩
  refine ⟨_, rfl, ?_⟩
  refine OpsT.pures (r := [9]) [7, 8] [0, 6, 20, 22] (S' := [(0, .pointer (some ⟨b_a0, 0, none⟩)), (6, .int .i64 (y3.length : Int)), (20, .slice A8 y7.length cp9), (22, .pointer (some ⟨b_a0, 1, none⟩))]) (by kernel_rfl) ?_
  have hI := hI.mono (pick2 _ _ _)
  refine OpsT.cons (Does.storeLit (T := 31) (b := b_a0) (o := 1) (v := .slice A8 y7.length cp9) (l := (([selfP b_a0 y2, .slice A4 y3.length cp5] : List Value))) (vs := ([.slice A8 y7.length cp9] : List Value)) (L' := (([selfP b_a0 y2, .slice A8 y7.length cp9] : List Value))) (by kernel_rfl) ty31 hI (by kernel_rfl) (by kernel_rfl) (by kernel_rfl) (by kernel_rfl) (by kernel_rfl) ?_)
  intro w hI
  refine OpsT.done ?_
  refine Qn.then ?_
  refine CodT.seq ?_
  refine CodT.regionL [0, 1, 2, 3, 4, 5, 6, 7, 8] (by kernel_rfl) ?_
  refine OpsT.pures (r := [3, 4, 5, 6, 7, 8]) [0, 1, 2] [6, 25] (S' := [(6, .int .i64 (y3.length : Int)), (25, .pointer (some ⟨b_a0, 1, none⟩))]) (by kernel_rfl) ?_
  refine OpsT.cons (Does.yi (Yl.load (d := 26) (T := 31) (v := .slice A8 y7.length cp9) (by kernel_rfl) (ldB ty31 (l := (([selfP b_a0 y2, .slice A8 y7.length cp9] : List Value))) (o := 1) (v := .slice A8 y7.length cp9) (ent_refl _) (by kernel_rfl))) hI ?_)
  refine OpsT.pures (r := []) [4, 5, 6, 7, 8] [4, 5] (S' := [(4, .int .i64 (wi64 ((y7.length : Int) - (y3.length : Int)))), (5, .nilIface)]) (by kernel_rfl) ?_
  refine OpsT.done ?_
  refine Qn.then ?_
  refine CodT.ret ?_
  have e := someS h0
  subst e
  refine Qn.keep [4, 5] (S' := [(4, .int .i64 (wi64 ((y7.length : Int) - (y3.length : Int)))), (5, .nilIface)]) (by kernel_rfl) ?_
  exact post_ret (v := .tuple #[.int .i64 (wi64 ((y7.length : Int) - (y3.length : Int))), .nilIface]) (fun a ha => RunRes.run (vs := [.int .i64 (wi64 ((y7.length : Int) - (y3.length : Int))), .nilIface]) (.tmp (t := 4) (by kernel_rfl) (.tmp (t := 5) (by kernel_rfl) .nil)) ha (by kernel_rfl)) ⟨A8, cp9, rfl, hI⟩
set_option maxRecDepth 100000 in
set_option maxHeartbeats 4000000 in
/-- (*strings.Builder).Write -/
theorem c24 (w0 w : World) (Z : Hp) (A : HP)  (hT : Tabs Z) (b_a0 : Nat) (a0_v_addr : Bool) (A_a0_v_buf : Option Addr) (c_a0_v_buf : Nat) (a0_v_buf : (List Int)) (A_a1 : Option Addr) (c_a1 : Nat) (a1 : (List Int)) (hr_a1 : RdS Z (cI .u8) 1 A_a1 c_a1 a1) (hI : Inv w0 Z w (star (pt b_a0 (.cells ((([selfP b_a0 a0_v_addr, .slice A_a0_v_buf a0_v_buf.length c_a0_v_buf] : List Value))).toArray 42 (0, 0))) (star (ownS 5 (cI .u8) 1 A_a0_v_buf c_a0_v_buf a0_v_buf) A))) (r : (Int × Dyn44 × Bool × (List Int))) (h0 : strings_Builder_Write a0_v_addr a0_v_buf a1 = some r) :
    Calls prog 24 #[.pointer (some ⟨b_a0, 0, none⟩), .slice A_a1 a1.length c_a1] w (fun e w' => ∃ (A1 : Option Addr) (c1 : Nat), e = .returned (.tuple #[.int .i64 r.1, dynV44 r.2.1]) ∧ Inv w0 Z w' (star (pt b_a0 (.cells ((([selfP b_a0 r.2.2.1, .slice A1 r.2.2.2.length c1] : List Value))).toArray 42 (0, 0))) (star (ownS 5 (cI .u8) 1 A1 c1 r.2.2.2) A))) := by
  have e4 := calls_intro (R := (fun e w' => ∃ (A1 : Option Addr) (c1 : Nat), e = .returned (.tuple #[.int .i64 r.1, dynV44 r.2.1]) ∧ Inv w0 Z w' (star (pt b_a0 (.cells ((([selfP b_a0 r.2.2.1, .slice A1 r.2.2.2.length c1] : List Value))).toArray 42 (0, 0))) (star (ownS 5 (cI .u8) 1 A1 c1 r.2.2.2) A)))) (w := w) (args := [.pointer (some ⟨b_a0, 0, none⟩), .slice A_a1 a1.length c_a1]) (fn := Go.Proofs.Tryd.f24) 19 Go.Proofs.Tryd.func24 (by rfl) Go.Proofs.Tryd.ntmps24 (by kernel_rfl)
  refine e4 ?_
  clear e4
  unfold strings_Builder_Write at h0
  refine CodT.seq ?_
  refine CodT.regionL [0, 1] (by kernel_rfl) ?_
  refine OpsT.pures (r := []) [0, 1] [0, 1] (S' := [(0, .pointer (some ⟨b_a0, 0, none⟩)), (1, .slice A_a1 a1.length c_a1)]) (by kernel_rfl) ?_
  refine OpsT.done ?_
  refine Qn.then ?_
  refine CodT.seq ?_
  refine CodT.regionL [0, 1] (by kernel_rfl) ?_
  refine OpsT.pures (r := [1]) [0] [0, 1, 6] (S' := [(0, .pointer (some ⟨b_a0, 0, none⟩)), (1, .slice A_a1 a1.length c_a1), (6, .pointer (some ⟨b_a0, 0, none⟩))]) (by kernel_rfl) ?_
  have hI := hI.mono (pick2 _ _ _)
  have hI := hI.mono (pick2 _ _ _)
  obtain ⟨⟨y2, y3⟩, hc1, h0⟩ := bindS h0
  try dsimp only at h0
  refine OpsT.cons (Does.call (d := some 7) (n := 32) (vs := [.pointer (some ⟨b_a0, 0, none⟩)]) (by kernel_rfl) en32 (c32 w0 w _ _ hT b_a0 a0_v_addr A_a0_v_buf c_a0_v_buf a0_v_buf hI _ hc1) ?_)
  rintro e w ⟨A4, cp5, rfl, hI⟩
  refine ⟨_, rfl, ?_⟩
  refine OpsT.done ?_
  refine Qn.then ?_
  refine CodT.seq ?_
  refine CodT.regionL [0, 1, 2, 3, 4, 5, 6, 7, 8, 9] (by kernel_rfl) ?_
  refine OpsT.pures (r := [4, 5, 6, 7, 8, 9]) [0, 1, 2, 3] [1, 8, 11] (S' := [(1, .slice A_a1 a1.length c_a1), (8, .pointer (some ⟨b_a0, 0, none⟩)), (11, .pointer (some ⟨b_a0, 1, none⟩))]) (by kernel_rfl) ?_
  refine OpsT.cons (Does.yi (Yl.load (d := 12) (T := 31) (v := .slice A4 y3.length cp5) (by kernel_rfl) (ldB ty31 (l := (([selfP b_a0 y2, .slice A4 y3.length cp5] : List Value))) (o := 1) (v := .slice A4 y3.length cp5) (ent_refl _) (by kernel_rfl))) hI ?_)
  refine OpsT.pures (r := [6, 7, 8, 9]) [5] [1, 8, 12, 13] (S' := [(1, .slice A_a1 a1.length c_a1), (8, .pointer (some ⟨b_a0, 0, none⟩)), (12, .slice A4 y3.length cp5), (13, .slice A_a1 a1.length c_a1)]) (by kernel_rfl) ?_
  obtain ⟨hg6, h0⟩ := guardS h0
  have hI := hI.mono (pick2 _ _ _)
  refine OpsT.cons (Does.append (d := 14) (t := 31) (tx := 31) (ty := 31) (ys := y3) (zs := a1) (x := .slice A_a1 a1.length c_a1) (by kernel_rfl) Go.Proofs.Tryd.underlying31 ty5 (by kernel_rfl) hI (src_rd Go.Proofs.Tryd.underlying31 hI hr_a1 (one_flat _ (fun _ => rfl))) hr_a1.2.2.1 (by unfold LIM at hg6; omega) hg6 ?_)
  intro A7 cp8 w hI
  refine OpsT.pures (r := [9]) [7, 8] [1, 14, 16] (S' := [(1, .slice A_a1 a1.length c_a1), (14, .slice A7 ((y3 ++ a1).length) cp8), (16, .pointer (some ⟨b_a0, 1, none⟩))]) (by kernel_rfl) ?_
  have hI := hI.mono (pick2 _ _ _)
  refine OpsT.cons (Does.storeLit (T := 31) (b := b_a0) (o := 1) (v := .slice A7 ((y3 ++ a1).length) cp8) (l := (([selfP b_a0 y2, .slice A4 y3.length cp5] : List Value))) (vs := ([.slice A7 ((y3 ++ a1).length) cp8] : List Value)) (L' := (([selfP b_a0 y2, .slice A7 ((y3 ++ a1).length) cp8] : List Value))) (by kernel_rfl) ty31 hI (by kernel_rfl) (by kernel_rfl) (by kernel_rfl) (by kernel_rfl) (by kernel_rfl) ?_)
  intro w hI
  refine OpsT.done ?_
  refine Qn.then ?_
  refine CodT.seq ?_
  refine CodT.regionL [0, 1, 2, 3] (by kernel_rfl) ?_
  refine OpsT.pures (r := []) [0, 1, 2, 3] [4, 5] (S' := [(4, .int .i64 (a1.length : Int)), (5, .nilIface)]) (by kernel_rfl) ?_
  refine OpsT.done ?_
  refine Qn.then ?_
  refine CodT.ret ?_
  have e := someS h0
  subst e
  refine Qn.keep [4, 5] (S' := [(4, .int .i64 (a1.length : Int)), (5, .nilIface)]) (by kernel_rfl) ?_
  exact post_ret (v := .tuple #[.int .i64 (a1.length : Int), .nilIface]) (fun a ha => RunRes.run (vs := [.int .i64 (a1.length : Int), .nilIface]) (.tmp (t := 4) (by kernel_rfl) (.tmp (t := 5) (by kernel_rfl) .nil)) ha (by kernel_rfl)) ⟨A7, cp8, rfl, hI⟩
set_option maxRecDepth 100000 in
set_option maxHeartbeats 4000000 in
/-- unicode/utf8.decodeRuneInStringSlow -/
theorem c40 (w0 w : World) (Z : Hp) (A : HP) (hI : Inv w0 Z w A) (hT : Tabs Z) (a0 : ByteArray) (r : (Int × Int)) (h0 : utf8_decodeRuneInStringSlow a0 = some r) :
    Calls prog 40 #[.string a0] w (fun e w' => e = .returned (.tuple #[.int .i32 r.1, .int .i64 r.2]) ∧ Inv w0 Z w' A) := by
  have e4 := calls_intro (R := (fun e w' => e = .returned (.tuple #[.int .i32 r.1, .int .i64 r.2]) ∧ Inv w0 Z w' A)) (w := w) (args := [.string a0]) (fn := Go.Proofs.Tryd.f40) 117 Go.Proofs.Tryd.func40 (by rfl) Go.Proofs.Tryd.ntmps40 (by kernel_rfl)
  refine e4 ?_
  clear e4
  unfold utf8_decodeRuneInStringSlow at h0
  refine CodT.seq ?_
  refine CodT.regionL [0, 1] (by kernel_rfl) ?_
  refine OpsT.pures (r := []) [0, 1] [0] (S' := [(0, .string a0)]) (by kernel_rfl) ?_
  refine OpsT.done ?_
  refine Qn.then ?_
  refine CodT.seq ?_
  refine CodT.regionL [0, 1, 2] (by kernel_rfl) ?_
  refine OpsT.pures (r := []) [0, 1, 2] [0, 4] (S' := [(0, .string a0), (4, .int .i64 (a0.size : Int))]) (by kernel_rfl) ?_
  refine OpsT.done ?_
  refine Qn.then ?_
  refine CodT.seq ?_
  refine CodT.seq ?_
  refine CodT.regionL [0, 1] (by kernel_rfl) ?_
  refine OpsT.pures (r := []) [0, 1] [0, 4, 16] (S' := [(0, .string a0), (4, .int .i64 (a0.size : Int)), (16, .bool (decide ((a0.size : Int) < 1)))]) (by kernel_rfl) ?_
  refine OpsT.done ?_
  refine Qn.then ?_
  by_cases hb1 : (decide ((a0.size : Int) < 1)) = true
  · rw [if_pos hb1] at h0
    refine CodT.yes' (b := decide ((a0.size : Int) < 1)) (by kernel_rfl) hb1 ?_
    refine CodT.seq ?_
    refine CodT.regionL [0, 1] (by kernel_rfl) ?_
    refine OpsT.pures (r := []) [0, 1] [2, 3] (S' := [(2, .int .i32 65533), (3, .int .i64 0)]) (by kernel_rfl) ?_
    refine OpsT.done ?_
    refine Qn.then ?_
    refine CodT.ret ?_
    refine Qn.ret_then ?_
    have e := someS h0
    subst e
    refine Qn.keep [2, 3] (S' := [(2, .int .i32 65533), (3, .int .i64 0)]) (by kernel_rfl) ?_
    exact post_ret (v := .tuple #[.int .i32 65533, .int .i64 0]) (fun a ha => RunRes.run (vs := [.int .i32 65533, .int .i64 0]) (.tmp (t := 2) (by kernel_rfl) (.tmp (t := 3) (by kernel_rfl) .nil)) ha (by kernel_rfl)) ⟨rfl, hI⟩
  · rw [if_neg hb1] at h0
    refine CodT.no' (b := decide ((a0.size : Int) < 1)) (by kernel_rfl) (by simpa using hb1) ?_
    refine CodT.skip ?_
    refine Qn.then ?_
    refine CodT.seq ?_
    refine CodT.regionL [0, 1, 2] (by kernel_rfl) ?_
    refine OpsT.pures (r := [1, 2]) [0] [0, 4, 17] (S' := [(0, .string a0), (4, .int .i64 (a0.size : Int)), (17, .string a0)]) (by kernel_rfl) ?_
    obtain ⟨hg2, h0⟩ := guardS h0
    refine OpsT.cons (Does.yi (Yl.indexStr (d := 18) (T := 9) (k := .i64) (j := 0) (s := a0) (by kernel_rfl) Go.Proofs.Tryd.underlying9 hg2.1 hg2.2) hI ?_)
    refine OpsT.pures (r := []) [2] [0, 4, 5] (S' := [(0, .string a0), (4, .int .i64 (a0.size : Int)), (5, .int .u8 (bt a0 0))]) (by kernel_rfl) ?_
    refine OpsT.done ?_
    refine Qn.then ?_
    refine CodT.seq ?_
    refine CodT.regionL [0, 1, 2, 3] (by kernel_rfl) ?_
    refine OpsT.pures (r := [1, 2, 3]) [0] [0, 4, 5, 19] (S' := [(0, .string a0), (4, .int .i64 (a0.size : Int)), (5, .int .u8 (bt a0 0)), (19, .int .u8 (bt a0 0))]) (by kernel_rfl) ?_
    obtain ⟨hg3, h0⟩ := guardS h0
    obtain ⟨hr4, hl5⟩ := RdS.getC hT.1 (n := 256) (by kernel_rfl) hg3.1 hg3.2
    refine OpsT.cons (Does.yi (Yl.indexArr (d := 20) (T := 63) (k := .u8) (j := bt a0 0) (g := 0) (o := 0) (by kernel_rfl) Go.Proofs.Tryd.underlying63 ty5 hg3.1 hg3.2) hI ?_)
    refine OpsT.cons (Does.yi (Yl.load (d := 21) (T := 5) (v := .int .u8 (gt tab0 (bt a0 0))) (by kernel_rfl) (ldR ty5 (v := .int .u8 (gt tab0 (bt a0 0))) 0 (fun w hC => hr4 w0 w _ hC) (by kernel_rfl))) hI ?_)
    refine OpsT.pures (r := []) [3] [0, 4, 5, 6] (S' := [(0, .string a0), (4, .int .i64 (a0.size : Int)), (5, .int .u8 (bt a0 0)), (6, .int .u8 (gt tab0 (bt a0 0)))]) (by kernel_rfl) ?_
    refine OpsT.done ?_
    refine Qn.then ?_
    refine CodT.seq ?_
    refine CodT.seq ?_
    refine CodT.regionL [0, 1] (by kernel_rfl) ?_
    refine OpsT.pures (r := []) [0, 1] [0, 4, 5, 6, 23] (S' := [(0, .string a0), (4, .int .i64 (a0.size : Int)), (5, .int .u8 (bt a0 0)), (6, .int .u8 (gt tab0 (bt a0 0))), (23, .bool (decide ((gt tab0 (bt a0 0)) ≥ 240)))]) (by kernel_rfl) ?_
    refine OpsT.done ?_
    refine Qn.then ?_
    by_cases hb6 : (decide ((gt tab0 (bt a0 0)) ≥ 240)) = true
    · rw [if_pos hb6] at h0
      refine CodT.yes' (b := decide ((gt tab0 (bt a0 0)) ≥ 240)) (by kernel_rfl) hb6 ?_
      refine CodT.seq ?_
      refine CodT.regionL [0, 1, 2, 3, 4] (by kernel_rfl) ?_
      refine OpsT.pures (r := []) [0, 1, 2, 3, 4] [0, 7] (S' := [(0, .string a0), (7, .int .i32 (bShr .i32 (bShl .i32 (wi32 (gt tab0 (bt a0 0))) 31) 31))]) (by kernel_rfl) ?_
      refine OpsT.done ?_
      refine Qn.then ?_
      refine CodT.seq ?_
      refine CodT.regionL [0, 1, 2, 3, 4, 5, 6, 7, 8, 9] (by kernel_rfl) ?_
      refine OpsT.pures (r := [1, 2, 3, 4, 5, 6, 7, 8, 9]) [0] [7, 28] (S' := [(7, .int .i32 (bShr .i32 (bShl .i32 (wi32 (gt tab0 (bt a0 0))) 31) 31)), (28, .string a0)]) (by kernel_rfl) ?_
      obtain ⟨hg7, h0⟩ := guardS h0
      refine OpsT.cons (Does.yi (Yl.indexStr (d := 29) (T := 9) (k := .i64) (j := 0) (s := a0) (by kernel_rfl) Go.Proofs.Tryd.underlying9 hg7.1 hg7.2) hI ?_)
      refine OpsT.pures (r := []) [2, 3, 4, 5, 6, 7, 8, 9] [2, 3] (S' := [(2, .int .i32 (bOr .i32 (bAndNot .i32 (wi32 (bt a0 0)) (bShr .i32 (bShl .i32 (wi32 (gt tab0 (bt a0 0))) 31) 31)) (bAnd .i32 65533 (bShr .i32 (bShl .i32 (wi32 (gt tab0 (bt a0 0))) 31) 31)))), (3, .int .i64 1)]) (by kernel_rfl) ?_
      refine OpsT.done ?_
      refine Qn.then ?_
      refine CodT.ret ?_
      refine Qn.ret_then ?_
      have e := someS h0
      subst e
      refine Qn.keep [2, 3] (S' := [(2, .int .i32 (bOr .i32 (bAndNot .i32 (wi32 (bt a0 0)) (bShr .i32 (bShl .i32 (wi32 (gt tab0 (bt a0 0))) 31) 31)) (bAnd .i32 65533 (bShr .i32 (bShl .i32 (wi32 (gt tab0 (bt a0 0))) 31) 31)))), (3, .int .i64 1)]) (by kernel_rfl) ?_
      exact post_ret (v := .tuple #[.int .i32 (bOr .i32 (bAndNot .i32 (wi32 (bt a0 0)) (bShr .i32 (bShl .i32 (wi32 (gt tab0 (bt a0 0))) 31) 31)) (bAnd .i32 65533 (bShr .i32 (bShl .i32 (wi32 (gt tab0 (bt a0 0))) 31) 31))), .int .i64 1]) (fun a ha => RunRes.run (vs := [.int .i32 (bOr .i32 (bAndNot .i32 (wi32 (bt a0 0)) (bShr .i32 (bShl .i32 (wi32 (gt tab0 (bt a0 0))) 31) 31)) (bAnd .i32 65533 (bShr .i32 (bShl .i32 (wi32 (gt tab0 (bt a0 0))) 31) 31))), .int .i64 1]) (.tmp (t := 2) (by kernel_rfl) (.tmp (t := 3) (by kernel_rfl) .nil)) ha (by kernel_rfl)) ⟨rfl, hI⟩
    · rw [if_neg hb6] at h0
      refine CodT.no' (b := decide ((gt tab0 (bt a0 0)) ≥ 240)) (by kernel_rfl) (by simpa using hb6) ?_
      refine CodT.skip ?_
      refine Qn.then ?_
      refine CodT.seq ?_
      refine CodT.regionL [0, 1, 2, 3] (by kernel_rfl) ?_
      refine OpsT.pures (r := []) [0, 1, 2, 3] [0, 4, 5, 6, 8] (S' := [(0, .string a0), (4, .int .i64 (a0.size : Int)), (5, .int .u8 (bt a0 0)), (6, .int .u8 (gt tab0 (bt a0 0))), (8, .int .i64 (wi64 (bAnd .u8 (gt tab0 (bt a0 0)) 7)))]) (by kernel_rfl) ?_
      refine OpsT.done ?_
      refine Qn.then ?_
      refine CodT.seq ?_
      refine CodT.regionL [0, 1, 2, 3, 4, 5] (by kernel_rfl) ?_
      refine OpsT.pures (r := [2, 3, 4, 5]) [0, 1] [0, 4, 5, 8, 40] (S' := [(0, .string a0), (4, .int .i64 (a0.size : Int)), (5, .int .u8 (bt a0 0)), (8, .int .i64 (wi64 (bAnd .u8 (gt tab0 (bt a0 0)) 7))), (40, .int .u8 (bShr .u8 (gt tab0 (bt a0 0)) 4))]) (by kernel_rfl) ?_
      obtain ⟨hg8, h0⟩ := guardS h0
      obtain ⟨hr9, hl10⟩ := RdS.getC hT.2.1 (n := 16) (by kernel_rfl) hg8.1 hg8.2
      refine OpsT.cons (Does.yi (Yl.indexArr (d := 41) (T := 66) (k := .u8) (j := bShr .u8 (gt tab0 (bt a0 0)) 4) (g := 1) (o := 0) (by kernel_rfl) Go.Proofs.Tryd.underlying66 ty65 hg8.1 hg8.2) hI ?_)
      refine OpsT.cons (Does.yi (Yl.load (d := 42) (T := 65) (v := .agg (c_Utf8AcceptRange (gt tab1 (bShr .u8 (gt tab0 (bt a0 0)) 4))).toArray) (by kernel_rfl) (ldRN ty65 (cs := c_Utf8AcceptRange (gt tab1 (bShr .u8 (gt tab0 (bt a0 0)) 4))) 0 (fun w hC => hr9 w0 w _ hC) hl10 (whole _ _ hl10))) hI ?_)
      refine OpsT.cons (Does.allocL (d := 9) (T := 65) (c_Utf8AcceptRange (Utf8AcceptRange.mk 0 0)) (by kernel_rfl) ty65 hI (by kernel_rfl) ?_)
      intro b11 w hI
      refine OpsT.cons (Does.storeLit (T := 65) (b := b11) (o := 0) (v := .agg (c_Utf8AcceptRange (gt tab1 (bShr .u8 (gt tab0 (bt a0 0)) 4))).toArray) (l := c_Utf8AcceptRange (Utf8AcceptRange.mk 0 0)) (vs := c_Utf8AcceptRange (gt tab1 (bShr .u8 (gt tab0 (bt a0 0)) 4))) (L' := c_Utf8AcceptRange (gt tab1 (bShr .u8 (gt tab0 (bt a0 0)) 4))) (by kernel_rfl) ty65 hI (by kernel_rfl) (by kernel_rfl) (by kernel_rfl) (by kernel_rfl) (by kernel_rfl) ?_)
      intro w hI
      refine OpsT.done ?_
      refine Qn.then ?_
      refine CodT.seq ?_
      refine CodT.seq ?_
      refine CodT.regionL [0, 1, 2] (by kernel_rfl) ?_
      refine OpsT.pures (r := []) [0, 1, 2] [0, 5, 8, 9, 45] (S' := [(0, .string a0), (5, .int .u8 (bt a0 0)), (8, .int .i64 (wi64 (bAnd .u8 (gt tab0 (bt a0 0)) 7))), (9, .pointer (some ⟨b11, 0, none⟩)), (45, .bool (decide ((a0.size : Int) < (wi64 (bAnd .u8 (gt tab0 (bt a0 0)) 7)))))]) (by kernel_rfl) ?_
      refine OpsT.done ?_
      refine Qn.then ?_
      by_cases hb12 : (decide ((a0.size : Int) < (wi64 (bAnd .u8 (gt tab0 (bt a0 0)) 7)))) = true
      · rw [if_pos hb12] at h0
        refine CodT.yes' (b := decide ((a0.size : Int) < (wi64 (bAnd .u8 (gt tab0 (bt a0 0)) 7)))) (by kernel_rfl) hb12 ?_
        refine CodT.seq ?_
        refine CodT.regionL [0, 1] (by kernel_rfl) ?_
        refine OpsT.pures (r := []) [0, 1] [2, 3] (S' := [(2, .int .i32 65533), (3, .int .i64 1)]) (by kernel_rfl) ?_
        refine OpsT.done ?_
        refine Qn.then ?_
        refine CodT.ret ?_
        refine Qn.ret_then ?_
        have hI := hI.drop
        have e := someS h0
        subst e
        refine Qn.keep [2, 3] (S' := [(2, .int .i32 65533), (3, .int .i64 1)]) (by kernel_rfl) ?_
        exact post_ret (v := .tuple #[.int .i32 65533, .int .i64 1]) (fun a ha => RunRes.run (vs := [.int .i32 65533, .int .i64 1]) (.tmp (t := 2) (by kernel_rfl) (.tmp (t := 3) (by kernel_rfl) .nil)) ha (by kernel_rfl)) ⟨rfl, hI⟩
      · rw [if_neg hb12] at h0
        refine CodT.no' (b := decide ((a0.size : Int) < (wi64 (bAnd .u8 (gt tab0 (bt a0 0)) 7)))) (by kernel_rfl) (by simpa using hb12) ?_
        refine CodT.skip ?_
        refine Qn.then ?_
        refine CodT.seq ?_
        refine CodT.regionL [0, 1, 2] (by kernel_rfl) ?_
        refine OpsT.pures (r := [1, 2]) [0] [0, 5, 8, 9, 46] (S' := [(0, .string a0), (5, .int .u8 (bt a0 0)), (8, .int .i64 (wi64 (bAnd .u8 (gt tab0 (bt a0 0)) 7))), (9, .pointer (some ⟨b11, 0, none⟩)), (46, .string a0)]) (by kernel_rfl) ?_
        obtain ⟨hg13, h0⟩ := guardS h0
        refine OpsT.cons (Does.yi (Yl.indexStr (d := 47) (T := 9) (k := .i64) (j := 1) (s := a0) (by kernel_rfl) Go.Proofs.Tryd.underlying9 hg13.1 hg13.2) hI ?_)
        refine OpsT.pures (r := []) [2] [0, 5, 8, 9, 10] (S' := [(0, .string a0), (5, .int .u8 (bt a0 0)), (8, .int .i64 (wi64 (bAnd .u8 (gt tab0 (bt a0 0)) 7))), (9, .pointer (some ⟨b11, 0, none⟩)), (10, .int .u8 (bt a0 1))]) (by kernel_rfl) ?_
        refine OpsT.done ?_
        refine Qn.then ?_
        refine CodT.seq ?_
        obtain ⟨r1, h1, h0⟩ := bindS h0
        refine CodT.meet (fun a w => ∃ (x14 : Bool), x14 = r1 ∧ Fr 117 [(0, .string a0), (5, .int .u8 (bt a0 0)), (8, .int .i64 (wi64 (bAnd .u8 (gt tab0 (bt a0 0)) 7))), (10, .int .u8 (bt a0 1)), (57, .bool x14)] a ∧ Inv w0 Z w A) ?_ ?_
        ·
          refine CodT.regionL [0, 1, 2, 3, 4, 5, 6, 7, 8, 9] (by kernel_rfl) ?_
          refine OpsT.pures (r := [2, 3, 4, 5, 6, 7, 8, 9]) [0, 1] [0, 5, 8, 9, 10, 48, 49] (S' := [(0, .string a0), (5, .int .u8 (bt a0 0)), (8, .int .i64 (wi64 (bAnd .u8 (gt tab0 (bt a0 0)) 7))), (9, .pointer (some ⟨b11, 0, none⟩)), (10, .int .u8 (bt a0 1)), (48, .int .u8 (bt a0 1)), (49, .pointer (some ⟨b11, 0, none⟩))]) (by kernel_rfl) ?_
          refine OpsT.cons (Does.yi (Yl.load (d := 50) (T := 5) (v := .int .u8 ((gt tab1 (bShr .u8 (gt tab0 (bt a0 0)) 4)).lo)) (by kernel_rfl) (ldB ty5 (l := c_Utf8AcceptRange (gt tab1 (bShr .u8 (gt tab0 (bt a0 0)) 4))) (o := 0) (v := .int .u8 ((gt tab1 (bShr .u8 (gt tab0 (bt a0 0)) 4)).lo)) (ent_refl _) (by kernel_rfl))) hI ?_)
          refine OpsT.pures (r := [5, 6, 7, 8, 9]) [3, 4] [0, 5, 8, 9, 10, 52] (S' := [(0, .string a0), (5, .int .u8 (bt a0 0)), (8, .int .i64 (wi64 (bAnd .u8 (gt tab0 (bt a0 0)) 7))), (9, .pointer (some ⟨b11, 0, none⟩)), (10, .int .u8 (bt a0 1)), (52, .bool (decide ((bt a0 1) < ((gt tab1 (bShr .u8 (gt tab0 (bt a0 0)) 4)).lo))))]) (by kernel_rfl) ?_
          by_cases hb15 : (decide ((bt a0 1) < ((gt tab1 (bShr .u8 (gt tab0 (bt a0 0)) 4)).lo))) = true
          · rw [if_pos hb15] at h1
            refine OpsT.keep [0, 5, 8, 9, 10, 52] (S' := [(0, .string a0), (5, .int .u8 (bt a0 0)), (8, .int .i64 (wi64 (bAnd .u8 (gt tab0 (bt a0 0)) 7))), (9, .pointer (some ⟨b11, 0, none⟩)), (10, .int .u8 (bt a0 1)), (52, .bool true)]) (by simp only [hb15]; kernel_rfl) ?_
            refine OpsT.pures (r := []) [5, 6, 7, 8, 9] [0, 5, 8, 10, 57] (S' := [(0, .string a0), (5, .int .u8 (bt a0 0)), (8, .int .i64 (wi64 (bAnd .u8 (gt tab0 (bt a0 0)) 7))), (10, .int .u8 (bt a0 1)), (57, .bool true)]) (by kernel_rfl) ?_
            refine OpsT.done ?_
            have hI := hI.drop
            have e := someS h1
            subst e
            exact Qn.thenJ fun a ha => ⟨true, rfl, ha.keep [0, 5, 8, 10, 57] (by kernel_rfl), hI⟩
          · rw [if_neg hb15] at h1
            have hb15 : (decide ((bt a0 1) < ((gt tab1 (bShr .u8 (gt tab0 (bt a0 0)) 4)).lo))) = false := by simpa using hb15
            refine OpsT.keep [0, 5, 8, 9, 10, 52] (S' := [(0, .string a0), (5, .int .u8 (bt a0 0)), (8, .int .i64 (wi64 (bAnd .u8 (gt tab0 (bt a0 0)) 7))), (9, .pointer (some ⟨b11, 0, none⟩)), (10, .int .u8 (bt a0 1)), (52, .bool false)]) (by simp only [hb15]; kernel_rfl) ?_
            refine OpsT.pures (r := [6, 7, 8, 9]) [5] [0, 5, 8, 10, 52, 53] (S' := [(0, .string a0), (5, .int .u8 (bt a0 0)), (8, .int .i64 (wi64 (bAnd .u8 (gt tab0 (bt a0 0)) 7))), (10, .int .u8 (bt a0 1)), (52, .bool false), (53, .pointer (some ⟨b11, 1, none⟩))]) (by kernel_rfl) ?_
            refine OpsT.cons (Does.yi (Yl.load (d := 54) (T := 5) (v := .int .u8 ((gt tab1 (bShr .u8 (gt tab0 (bt a0 0)) 4)).hi)) (by kernel_rfl) (ldB ty5 (l := c_Utf8AcceptRange (gt tab1 (bShr .u8 (gt tab0 (bt a0 0)) 4))) (o := 1) (v := .int .u8 ((gt tab1 (bShr .u8 (gt tab0 (bt a0 0)) 4)).hi)) (ent_refl _) (by kernel_rfl))) hI ?_)
            refine OpsT.pures (r := []) [7, 8, 9] [0, 5, 8, 10, 57] (S' := [(0, .string a0), (5, .int .u8 (bt a0 0)), (8, .int .i64 (wi64 (bAnd .u8 (gt tab0 (bt a0 0)) 7))), (10, .int .u8 (bt a0 1)), (57, .bool (decide (((gt tab1 (bShr .u8 (gt tab0 (bt a0 0)) 4)).hi) < (bt a0 1))))]) (by kernel_rfl) ?_
            refine OpsT.done ?_
            have hI := hI.drop
            have e := someS h1
            subst e
            exact Qn.thenJ fun a ha => ⟨decide (((gt tab1 (bShr .u8 (gt tab0 (bt a0 0)) 4)).hi) < (bt a0 1)), rfl, ha.keep [0, 5, 8, 10, 57] (by kernel_rfl), hI⟩
        ·
          rintro a w ⟨x14, rfl, ha, hI⟩
          try dsimp only at h0
          refine CodT.of ?_ ha
          by_cases hb16 : x14 = true
          · rw [if_pos hb16] at h0
            refine CodT.yes' (b := x14) (by kernel_rfl) hb16 ?_
            refine CodT.seq ?_
            refine CodT.regionL [0, 1] (by kernel_rfl) ?_
            refine OpsT.pures (r := []) [0, 1] [2, 3] (S' := [(2, .int .i32 65533), (3, .int .i64 1)]) (by kernel_rfl) ?_
            refine OpsT.done ?_
            refine Qn.then ?_
            refine CodT.ret ?_
            refine Qn.ret_then ?_
            have e := someS h0
            subst e
            refine Qn.keep [2, 3] (S' := [(2, .int .i32 65533), (3, .int .i64 1)]) (by kernel_rfl) ?_
            exact post_ret (v := .tuple #[.int .i32 65533, .int .i64 1]) (fun a ha => RunRes.run (vs := [.int .i32 65533, .int .i64 1]) (.tmp (t := 2) (by kernel_rfl) (.tmp (t := 3) (by kernel_rfl) .nil)) ha (by kernel_rfl)) ⟨rfl, hI⟩
          · rw [if_neg hb16] at h0
            refine CodT.no' (b := x14) (by kernel_rfl) (by simpa using hb16) ?_
            refine CodT.skip ?_
            refine Qn.then ?_
            refine CodT.seq ?_
            refine CodT.seq ?_
            refine CodT.regionL [0, 1] (by kernel_rfl) ?_
            refine OpsT.pures (r := []) [0, 1] [0, 5, 8, 10, 59] (S' := [(0, .string a0), (5, .int .u8 (bt a0 0)), (8, .int .i64 (wi64 (bAnd .u8 (gt tab0 (bt a0 0)) 7))), (10, .int .u8 (bt a0 1)), (59, .bool (decide ((wi64 (bAnd .u8 (gt tab0 (bt a0 0)) 7)) ≤ 2)))]) (by kernel_rfl) ?_
            refine OpsT.done ?_
            refine Qn.then ?_
            by_cases hb17 : (decide ((wi64 (bAnd .u8 (gt tab0 (bt a0 0)) 7)) ≤ 2)) = true
            · rw [if_pos hb17] at h0
              refine CodT.yes' (b := decide ((wi64 (bAnd .u8 (gt tab0 (bt a0 0)) 7)) ≤ 2)) (by kernel_rfl) hb17 ?_
              refine CodT.seq ?_
              refine CodT.regionL [0, 1, 2, 3, 4, 5, 6, 7, 8, 9] (by kernel_rfl) ?_
              refine OpsT.pures (r := []) [0, 1, 2, 3, 4, 5, 6, 7, 8, 9] [2, 3] (S' := [(2, .int .i32 (bOr .i32 (bShl .i32 (wi32 (bAnd .u8 (bt a0 0) 31)) 6) (wi32 (bAnd .u8 (bt a0 1) 63)))), (3, .int .i64 2)]) (by kernel_rfl) ?_
              refine OpsT.done ?_
              refine Qn.then ?_
              refine CodT.ret ?_
              refine Qn.ret_then ?_
              have e := someS h0
              subst e
              refine Qn.keep [2, 3] (S' := [(2, .int .i32 (bOr .i32 (bShl .i32 (wi32 (bAnd .u8 (bt a0 0) 31)) 6) (wi32 (bAnd .u8 (bt a0 1) 63)))), (3, .int .i64 2)]) (by kernel_rfl) ?_
              exact post_ret (v := .tuple #[.int .i32 (bOr .i32 (bShl .i32 (wi32 (bAnd .u8 (bt a0 0) 31)) 6) (wi32 (bAnd .u8 (bt a0 1) 63))), .int .i64 2]) (fun a ha => RunRes.run (vs := [.int .i32 (bOr .i32 (bShl .i32 (wi32 (bAnd .u8 (bt a0 0) 31)) 6) (wi32 (bAnd .u8 (bt a0 1) 63))), .int .i64 2]) (.tmp (t := 2) (by kernel_rfl) (.tmp (t := 3) (by kernel_rfl) .nil)) ha (by kernel_rfl)) ⟨rfl, hI⟩
            · rw [if_neg hb17] at h0
              refine CodT.no' (b := decide ((wi64 (bAnd .u8 (gt tab0 (bt a0 0)) 7)) ≤ 2)) (by kernel_rfl) (by simpa using hb17) ?_
              refine CodT.skip ?_
              refine Qn.then ?_
              refine CodT.seq ?_
              refine CodT.regionL [0, 1, 2] (by kernel_rfl) ?_
              refine OpsT.pures (r := [1, 2]) [0] [0, 5, 8, 10, 68] (S' := [(0, .string a0), (5, .int .u8 (bt a0 0)), (8, .int .i64 (wi64 (bAnd .u8 (gt tab0 (bt a0 0)) 7))), (10, .int .u8 (bt a0 1)), (68, .string a0)]) (by kernel_rfl) ?_
              obtain ⟨hg18, h0⟩ := guardS h0
              refine OpsT.cons (Does.yi (Yl.indexStr (d := 69) (T := 9) (k := .i64) (j := 2) (s := a0) (by kernel_rfl) Go.Proofs.Tryd.underlying9 hg18.1 hg18.2) hI ?_)
              refine OpsT.pures (r := []) [2] [0, 5, 8, 10, 11] (S' := [(0, .string a0), (5, .int .u8 (bt a0 0)), (8, .int .i64 (wi64 (bAnd .u8 (gt tab0 (bt a0 0)) 7))), (10, .int .u8 (bt a0 1)), (11, .int .u8 (bt a0 2))]) (by kernel_rfl) ?_
              refine OpsT.done ?_
              refine Qn.then ?_
              refine CodT.seq ?_
              obtain ⟨r1, h1, h0⟩ := bindS h0
              refine CodT.meet (fun a w => ∃ (x19 : Bool), x19 = r1 ∧ Fr 117 [(0, .string a0), (5, .int .u8 (bt a0 0)), (8, .int .i64 (wi64 (bAnd .u8 (gt tab0 (bt a0 0)) 7))), (10, .int .u8 (bt a0 1)), (11, .int .u8 (bt a0 2)), (75, .bool x19)] a ∧ Inv w0 Z w A) ?_ ?_
              ·
                refine CodT.regionL [0, 1, 2, 3, 4, 5] (by kernel_rfl) ?_
                refine OpsT.pures (r := [3, 4, 5]) [0, 1, 2] [0, 5, 8, 10, 11, 72] (S' := [(0, .string a0), (5, .int .u8 (bt a0 0)), (8, .int .i64 (wi64 (bAnd .u8 (gt tab0 (bt a0 0)) 7))), (10, .int .u8 (bt a0 1)), (11, .int .u8 (bt a0 2)), (72, .bool (decide ((bt a0 2) < 128)))]) (by kernel_rfl) ?_
                by_cases hb20 : (decide ((bt a0 2) < 128)) = true
                · rw [if_pos hb20] at h1
                  refine OpsT.keep [0, 5, 8, 10, 11, 72] (S' := [(0, .string a0), (5, .int .u8 (bt a0 0)), (8, .int .i64 (wi64 (bAnd .u8 (gt tab0 (bt a0 0)) 7))), (10, .int .u8 (bt a0 1)), (11, .int .u8 (bt a0 2)), (72, .bool true)]) (by simp only [hb20]; kernel_rfl) ?_
                  refine OpsT.pures (r := []) [3, 4, 5] [0, 5, 8, 10, 11, 75] (S' := [(0, .string a0), (5, .int .u8 (bt a0 0)), (8, .int .i64 (wi64 (bAnd .u8 (gt tab0 (bt a0 0)) 7))), (10, .int .u8 (bt a0 1)), (11, .int .u8 (bt a0 2)), (75, .bool true)]) (by kernel_rfl) ?_
                  refine OpsT.done ?_
                  have e := someS h1
                  subst e
                  exact Qn.thenJ fun a ha => ⟨true, rfl, ha.keep [0, 5, 8, 10, 11, 75] (by kernel_rfl), hI⟩
                · rw [if_neg hb20] at h1
                  have hb20 : (decide ((bt a0 2) < 128)) = false := by simpa using hb20
                  refine OpsT.keep [0, 5, 8, 10, 11, 72] (S' := [(0, .string a0), (5, .int .u8 (bt a0 0)), (8, .int .i64 (wi64 (bAnd .u8 (gt tab0 (bt a0 0)) 7))), (10, .int .u8 (bt a0 1)), (11, .int .u8 (bt a0 2)), (72, .bool false)]) (by simp only [hb20]; kernel_rfl) ?_
                  refine OpsT.pures (r := []) [3, 4, 5] [0, 5, 8, 10, 11, 75] (S' := [(0, .string a0), (5, .int .u8 (bt a0 0)), (8, .int .i64 (wi64 (bAnd .u8 (gt tab0 (bt a0 0)) 7))), (10, .int .u8 (bt a0 1)), (11, .int .u8 (bt a0 2)), (75, .bool (decide ((191 : Int) < (bt a0 2))))]) (by kernel_rfl) ?_
                  refine OpsT.done ?_
                  have e := someS h1
                  subst e
                  exact Qn.thenJ fun a ha => ⟨decide ((191 : Int) < (bt a0 2)), rfl, ha.keep [0, 5, 8, 10, 11, 75] (by kernel_rfl), hI⟩
              ·
                rintro a w ⟨x19, rfl, ha, hI⟩
                try dsimp only at h0
                refine CodT.of ?_ ha
                by_cases hb21 : x19 = true
                · rw [if_pos hb21] at h0
                  refine CodT.yes' (b := x19) (by kernel_rfl) hb21 ?_
                  refine CodT.seq ?_
                  refine CodT.regionL [0, 1] (by kernel_rfl) ?_
                  refine OpsT.pures (r := []) [0, 1] [2, 3] (S' := [(2, .int .i32 65533), (3, .int .i64 1)]) (by kernel_rfl) ?_
                  refine OpsT.done ?_
                  refine Qn.then ?_
                  refine CodT.ret ?_
                  refine Qn.ret_then ?_
                  have e := someS h0
                  subst e
                  refine Qn.keep [2, 3] (S' := [(2, .int .i32 65533), (3, .int .i64 1)]) (by kernel_rfl) ?_
                  exact post_ret (v := .tuple #[.int .i32 65533, .int .i64 1]) (fun a ha => RunRes.run (vs := [.int .i32 65533, .int .i64 1]) (.tmp (t := 2) (by kernel_rfl) (.tmp (t := 3) (by kernel_rfl) .nil)) ha (by kernel_rfl)) ⟨rfl, hI⟩
                · rw [if_neg hb21] at h0
                  refine CodT.no' (b := x19) (by kernel_rfl) (by simpa using hb21) ?_
                  refine CodT.skip ?_
                  refine Qn.then ?_
                  refine CodT.seq ?_
                  refine CodT.seq ?_
                  refine CodT.regionL [0, 1] (by kernel_rfl) ?_
                  refine OpsT.pures (r := []) [0, 1] [0, 5, 10, 11, 77] (S' := [(0, .string a0), (5, .int .u8 (bt a0 0)), (10, .int .u8 (bt a0 1)), (11, .int .u8 (bt a0 2)), (77, .bool (decide ((wi64 (bAnd .u8 (gt tab0 (bt a0 0)) 7)) ≤ 3)))]) (by kernel_rfl) ?_
                  refine OpsT.done ?_
                  refine Qn.then ?_
                  by_cases hb22 : (decide ((wi64 (bAnd .u8 (gt tab0 (bt a0 0)) 7)) ≤ 3)) = true
                  · rw [if_pos hb22] at h0
                    refine CodT.yes' (b := decide ((wi64 (bAnd .u8 (gt tab0 (bt a0 0)) 7)) ≤ 3)) (by kernel_rfl) hb22 ?_
                    refine CodT.seq ?_
                    refine CodT.regionL [0, 1, 2, 3, 4, 5, 6, 7, 8, 9, 10, 11, 12, 13, 14] (by kernel_rfl) ?_
                    refine OpsT.pures (r := []) [0, 1, 2, 3, 4, 5, 6, 7, 8, 9, 10, 11, 12, 13, 14] [2, 3] (S' := [(2, .int .i32 (bOr .i32 (bOr .i32 (bShl .i32 (wi32 (bAnd .u8 (bt a0 0) 15)) 12) (bShl .i32 (wi32 (bAnd .u8 (bt a0 1) 63)) 6)) (wi32 (bAnd .u8 (bt a0 2) 63)))), (3, .int .i64 3)]) (by kernel_rfl) ?_
                    refine OpsT.done ?_
                    refine Qn.then ?_
                    refine CodT.ret ?_
                    refine Qn.ret_then ?_
                    have e := someS h0
                    subst e
                    refine Qn.keep [2, 3] (S' := [(2, .int .i32 (bOr .i32 (bOr .i32 (bShl .i32 (wi32 (bAnd .u8 (bt a0 0) 15)) 12) (bShl .i32 (wi32 (bAnd .u8 (bt a0 1) 63)) 6)) (wi32 (bAnd .u8 (bt a0 2) 63)))), (3, .int .i64 3)]) (by kernel_rfl) ?_
                    exact post_ret (v := .tuple #[.int .i32 (bOr .i32 (bOr .i32 (bShl .i32 (wi32 (bAnd .u8 (bt a0 0) 15)) 12) (bShl .i32 (wi32 (bAnd .u8 (bt a0 1) 63)) 6)) (wi32 (bAnd .u8 (bt a0 2) 63))), .int .i64 3]) (fun a ha => RunRes.run (vs := [.int .i32 (bOr .i32 (bOr .i32 (bShl .i32 (wi32 (bAnd .u8 (bt a0 0) 15)) 12) (bShl .i32 (wi32 (bAnd .u8 (bt a0 1) 63)) 6)) (wi32 (bAnd .u8 (bt a0 2) 63))), .int .i64 3]) (.tmp (t := 2) (by kernel_rfl) (.tmp (t := 3) (by kernel_rfl) .nil)) ha (by kernel_rfl)) ⟨rfl, hI⟩
                  · rw [if_neg hb22] at h0
                    refine CodT.no' (b := decide ((wi64 (bAnd .u8 (gt tab0 (bt a0 0)) 7)) ≤ 3)) (by kernel_rfl) (by simpa using hb22) ?_
                    refine CodT.skip ?_
                    refine Qn.then ?_
                    refine CodT.seq ?_
                    refine CodT.regionL [0, 1, 2] (by kernel_rfl) ?_
                    refine OpsT.pures (r := [1, 2]) [0] [5, 10, 11, 91] (S' := [(5, .int .u8 (bt a0 0)), (10, .int .u8 (bt a0 1)), (11, .int .u8 (bt a0 2)), (91, .string a0)]) (by kernel_rfl) ?_
                    obtain ⟨hg23, h0⟩ := guardS h0
                    refine OpsT.cons (Does.yi (Yl.indexStr (d := 92) (T := 9) (k := .i64) (j := 3) (s := a0) (by kernel_rfl) Go.Proofs.Tryd.underlying9 hg23.1 hg23.2) hI ?_)
                    refine OpsT.pures (r := []) [2] [5, 10, 11, 12] (S' := [(5, .int .u8 (bt a0 0)), (10, .int .u8 (bt a0 1)), (11, .int .u8 (bt a0 2)), (12, .int .u8 (bt a0 3))]) (by kernel_rfl) ?_
                    refine OpsT.done ?_
                    refine Qn.then ?_
                    refine CodT.seq ?_
                    obtain ⟨r1, h1, h0⟩ := bindS h0
                    refine CodT.meet (fun a w => ∃ (x24 : Bool), x24 = r1 ∧ Fr 117 [(5, .int .u8 (bt a0 0)), (10, .int .u8 (bt a0 1)), (11, .int .u8 (bt a0 2)), (12, .int .u8 (bt a0 3)), (98, .bool x24)] a ∧ Inv w0 Z w A) ?_ ?_
                    ·
                      refine CodT.regionL [0, 1, 2, 3, 4, 5] (by kernel_rfl) ?_
                      refine OpsT.pures (r := [3, 4, 5]) [0, 1, 2] [5, 10, 11, 12, 95] (S' := [(5, .int .u8 (bt a0 0)), (10, .int .u8 (bt a0 1)), (11, .int .u8 (bt a0 2)), (12, .int .u8 (bt a0 3)), (95, .bool (decide ((bt a0 3) < 128)))]) (by kernel_rfl) ?_
                      by_cases hb25 : (decide ((bt a0 3) < 128)) = true
                      · rw [if_pos hb25] at h1
                        refine OpsT.keep [5, 10, 11, 12, 95] (S' := [(5, .int .u8 (bt a0 0)), (10, .int .u8 (bt a0 1)), (11, .int .u8 (bt a0 2)), (12, .int .u8 (bt a0 3)), (95, .bool true)]) (by simp only [hb25]; kernel_rfl) ?_
                        refine OpsT.pures (r := []) [3, 4, 5] [5, 10, 11, 12, 98] (S' := [(5, .int .u8 (bt a0 0)), (10, .int .u8 (bt a0 1)), (11, .int .u8 (bt a0 2)), (12, .int .u8 (bt a0 3)), (98, .bool true)]) (by kernel_rfl) ?_
                        refine OpsT.done ?_
                        have e := someS h1
                        subst e
                        exact Qn.thenJ fun a ha => ⟨true, rfl, ha.keep [5, 10, 11, 12, 98] (by kernel_rfl), hI⟩
                      · rw [if_neg hb25] at h1
                        have hb25 : (decide ((bt a0 3) < 128)) = false := by simpa using hb25
                        refine OpsT.keep [5, 10, 11, 12, 95] (S' := [(5, .int .u8 (bt a0 0)), (10, .int .u8 (bt a0 1)), (11, .int .u8 (bt a0 2)), (12, .int .u8 (bt a0 3)), (95, .bool false)]) (by simp only [hb25]; kernel_rfl) ?_
                        refine OpsT.pures (r := []) [3, 4, 5] [5, 10, 11, 12, 98] (S' := [(5, .int .u8 (bt a0 0)), (10, .int .u8 (bt a0 1)), (11, .int .u8 (bt a0 2)), (12, .int .u8 (bt a0 3)), (98, .bool (decide ((191 : Int) < (bt a0 3))))]) (by kernel_rfl) ?_
                        refine OpsT.done ?_
                        have e := someS h1
                        subst e
                        exact Qn.thenJ fun a ha => ⟨decide ((191 : Int) < (bt a0 3)), rfl, ha.keep [5, 10, 11, 12, 98] (by kernel_rfl), hI⟩
                    ·
                      rintro a w ⟨x24, rfl, ha, hI⟩
                      try dsimp only at h0
                      refine CodT.of ?_ ha
                      by_cases hb26 : x24 = true
                      · rw [if_pos hb26] at h0
                        refine CodT.yes' (b := x24) (by kernel_rfl) hb26 ?_
                        refine CodT.seq ?_
                        refine CodT.regionL [0, 1] (by kernel_rfl) ?_
                        refine OpsT.pures (r := []) [0, 1] [2, 3] (S' := [(2, .int .i32 65533), (3, .int .i64 1)]) (by kernel_rfl) ?_
                        refine OpsT.done ?_
                        refine Qn.then ?_
                        refine CodT.ret ?_
                        refine Qn.ret_then ?_
                        have e := someS h0
                        subst e
                        refine Qn.keep [2, 3] (S' := [(2, .int .i32 65533), (3, .int .i64 1)]) (by kernel_rfl) ?_
                        exact post_ret (v := .tuple #[.int .i32 65533, .int .i64 1]) (fun a ha => RunRes.run (vs := [.int .i32 65533, .int .i64 1]) (.tmp (t := 2) (by kernel_rfl) (.tmp (t := 3) (by kernel_rfl) .nil)) ha (by kernel_rfl)) ⟨rfl, hI⟩
                      · rw [if_neg hb26] at h0
                        refine CodT.no' (b := x24) (by kernel_rfl) (by simpa using hb26) ?_
                        refine CodT.skip ?_
                        refine Qn.then ?_
                        refine CodT.seq ?_
                        refine CodT.regionL [0, 1, 2, 3, 4, 5, 6, 7, 8, 9, 10, 11, 12, 13, 14, 15, 16, 17, 18, 19] (by kernel_rfl) ?_
                        refine OpsT.pures (r := []) [0, 1, 2, 3, 4, 5, 6, 7, 8, 9, 10, 11, 12, 13, 14, 15, 16, 17, 18, 19] [2, 3] (S' := [(2, .int .i32 (bOr .i32 (bOr .i32 (bOr .i32 (bShl .i32 (wi32 (bAnd .u8 (bt a0 0) 7)) 18) (bShl .i32 (wi32 (bAnd .u8 (bt a0 1) 63)) 12)) (bShl .i32 (wi32 (bAnd .u8 (bt a0 2) 63)) 6)) (wi32 (bAnd .u8 (bt a0 3) 63)))), (3, .int .i64 4)]) (by kernel_rfl) ?_
                        refine OpsT.done ?_
                        refine Qn.then ?_
                        refine CodT.ret ?_
                        have e := someS h0
                        subst e
                        refine Qn.keep [2, 3] (S' := [(2, .int .i32 (bOr .i32 (bOr .i32 (bOr .i32 (bShl .i32 (wi32 (bAnd .u8 (bt a0 0) 7)) 18) (bShl .i32 (wi32 (bAnd .u8 (bt a0 1) 63)) 12)) (bShl .i32 (wi32 (bAnd .u8 (bt a0 2) 63)) 6)) (wi32 (bAnd .u8 (bt a0 3) 63)))), (3, .int .i64 4)]) (by kernel_rfl) ?_
                        exact post_ret (v := .tuple #[.int .i32 (bOr .i32 (bOr .i32 (bOr .i32 (bShl .i32 (wi32 (bAnd .u8 (bt a0 0) 7)) 18) (bShl .i32 (wi32 (bAnd .u8 (bt a0 1) 63)) 12)) (bShl .i32 (wi32 (bAnd .u8 (bt a0 2) 63)) 6)) (wi32 (bAnd .u8 (bt a0 3) 63))), .int .i64 4]) (fun a ha => RunRes.run (vs := [.int .i32 (bOr .i32 (bOr .i32 (bOr .i32 (bShl .i32 (wi32 (bAnd .u8 (bt a0 0) 7)) 18) (bShl .i32 (wi32 (bAnd .u8 (bt a0 1) 63)) 12)) (bShl .i32 (wi32 (bAnd .u8 (bt a0 2) 63)) 6)) (wi32 (bAnd .u8 (bt a0 3) 63))), .int .i64 4]) (.tmp (t := 2) (by kernel_rfl) (.tmp (t := 3) (by kernel_rfl) .nil)) ha (by kernel_rfl)) ⟨rfl, hI⟩
set_option maxRecDepth 100000 in
set_option maxHeartbeats 4000000 in
/-- unicode/utf8.DecodeRuneInString -/
theorem c34 (w0 w : World) (Z : Hp) (A : HP) (hI : Inv w0 Z w A) (hT : Tabs Z) (a0 : ByteArray) (r : (Int × Int)) (h0 : utf8_DecodeRuneInString a0 = some r) :
    Calls prog 34 #[.string a0] w (fun e w' => e = .returned (.tuple #[.int .i32 r.1, .int .i64 r.2]) ∧ Inv w0 Z w' A) := by
  have e4 := calls_intro (R := (fun e w' => e = .returned (.tuple #[.int .i32 r.1, .int .i64 r.2]) ∧ Inv w0 Z w' A)) (w := w) (args := [.string a0]) (fn := Go.Proofs.Tryd.f34) 19 Go.Proofs.Tryd.func34 (by rfl) Go.Proofs.Tryd.ntmps34 (by kernel_rfl)
  refine e4 ?_
  clear e4
  unfold utf8_DecodeRuneInString at h0
  refine CodT.seq ?_
  refine CodT.regionL [0, 1] (by kernel_rfl) ?_
  refine OpsT.pures (r := []) [0, 1] [0] (S' := [(0, .string a0)]) (by kernel_rfl) ?_
  refine OpsT.done ?_
  refine Qn.then ?_
  refine CodT.seq ?_
  obtain ⟨r1, h1, h0⟩ := bindS h0
  refine CodT.meet (fun a w => ∃ (x1 : Bool), x1 = r1 ∧ Fr 19 [(0, .string a0), (10, .bool x1)] a ∧ Inv w0 Z w A) ?_ ?_
  ·
    refine CodT.regionL [0, 1, 2, 3, 4, 5, 6] (by kernel_rfl) ?_
    refine OpsT.pures (r := [3, 4, 5, 6]) [0, 1, 2] [0, 6] (S' := [(0, .string a0), (6, .bool (!(seq a0 (⟨#[]⟩ : ByteArray))))]) (by kernel_rfl) ?_
    by_cases hb2 : (!(seq a0 (⟨#[]⟩ : ByteArray))) = true
    · rw [if_pos hb2] at h1
      refine OpsT.keep [0, 6] (S' := [(0, .string a0), (6, .bool true)]) (by simp only [hb2]; kernel_rfl) ?_
      refine OpsT.pures (r := [4, 5, 6]) [3] [0, 6, 7] (S' := [(0, .string a0), (6, .bool true), (7, .string a0)]) (by kernel_rfl) ?_
      obtain ⟨hg3, h1⟩ := guardS h1
      refine OpsT.cons (Does.yi (Yl.indexStr (d := 8) (T := 9) (k := .i64) (j := 0) (s := a0) (by kernel_rfl) Go.Proofs.Tryd.underlying9 hg3.1 hg3.2) hI ?_)
      refine OpsT.pures (r := []) [5, 6] [0, 10] (S' := [(0, .string a0), (10, .bool (decide ((bt a0 0) < 128)))]) (by kernel_rfl) ?_
      refine OpsT.done ?_
      have e := someS h1
      subst e
      exact Qn.thenJ fun a ha => ⟨decide ((bt a0 0) < 128), rfl, ha.keep [0, 10] (by kernel_rfl), hI⟩
    · rw [if_neg hb2] at h1
      have hb2 : (!(seq a0 (⟨#[]⟩ : ByteArray))) = false := by simpa using hb2
      refine OpsT.keep [0, 6] (S' := [(0, .string a0), (6, .bool false)]) (by simp only [hb2]; kernel_rfl) ?_
      refine OpsT.pures (r := []) [3, 4, 5, 6] [0, 10] (S' := [(0, .string a0), (10, .bool false)]) (by kernel_rfl) ?_
      refine OpsT.done ?_
      have e := someS h1
      subst e
      exact Qn.thenJ fun a ha => ⟨false, rfl, ha.keep [0, 10] (by kernel_rfl), hI⟩
  ·
    rintro a w ⟨x1, rfl, ha, hI⟩
    try dsimp only at h0
    refine CodT.of ?_ ha
    by_cases hb4 : x1 = true
    · rw [if_pos hb4] at h0
      refine CodT.yes' (b := x1) (by kernel_rfl) hb4 ?_
      refine CodT.seq ?_
      refine CodT.regionL [0, 1, 2, 3, 4] (by kernel_rfl) ?_
      refine OpsT.pures (r := [1, 2, 3, 4]) [0] [11] (S' := [(11, .string a0)]) (by kernel_rfl) ?_
      obtain ⟨hg5, h0⟩ := guardS h0
      refine OpsT.cons (Does.yi (Yl.indexStr (d := 12) (T := 9) (k := .i64) (j := 0) (s := a0) (by kernel_rfl) Go.Proofs.Tryd.underlying9 hg5.1 hg5.2) hI ?_)
      refine OpsT.pures (r := []) [2, 3, 4] [2, 3] (S' := [(2, .int .i32 (wi32 (bt a0 0))), (3, .int .i64 1)]) (by kernel_rfl) ?_
      refine OpsT.done ?_
      refine Qn.then ?_
      refine CodT.ret ?_
      refine Qn.ret_then ?_
      have e := someS h0
      subst e
      refine Qn.keep [2, 3] (S' := [(2, .int .i32 (wi32 (bt a0 0))), (3, .int .i64 1)]) (by kernel_rfl) ?_
      exact post_ret (v := .tuple #[.int .i32 (wi32 (bt a0 0)), .int .i64 1]) (fun a ha => RunRes.run (vs := [.int .i32 (wi32 (bt a0 0)), .int .i64 1]) (.tmp (t := 2) (by kernel_rfl) (.tmp (t := 3) (by kernel_rfl) .nil)) ha (by kernel_rfl)) ⟨rfl, hI⟩
    · rw [if_neg hb4] at h0
      refine CodT.no' (b := x1) (by kernel_rfl) (by simpa using hb4) ?_
      refine CodT.regionL [0, 1, 2, 3, 4, 5, 6] (by kernel_rfl) ?_
      refine OpsT.pures (r := [1, 2, 3, 4, 5, 6]) [0] [15] (S' := [(15, .string a0)]) (by kernel_rfl) ?_
      obtain ⟨⟨y7, y8⟩, hc6, h0⟩ := bindS h0
      try dsimp only at h0
      refine OpsT.cons (Does.call (d := some 16) (n := 40) (vs := [.string a0]) (by kernel_rfl) en40 (c40 w0 w _ _ hI hT a0 _ hc6) ?_)
      rintro e w ⟨rfl, hI⟩
      refine ⟨_, rfl, ?_⟩
      refine OpsT.pures (r := []) [2, 3, 4, 5, 6] [2, 3] (S' := [(2, .int .i32 y7), (3, .int .i64 y8)]) (by kernel_rfl) ?_
      refine OpsT.done ?_
      refine Qn.then ?_
      refine CodT.ret ?_
      have e := someS h0
      subst e
      refine Qn.keep [2, 3] (S' := [(2, .int .i32 y7), (3, .int .i64 y8)]) (by kernel_rfl) ?_
      exact post_ret (v := .tuple #[.int .i32 y7, .int .i64 y8]) (fun a ha => RunRes.run (vs := [.int .i32 y7, .int .i64 y8]) (.tmp (t := 2) (by kernel_rfl) (.tmp (t := 3) (by kernel_rfl) .nil)) ha (by kernel_rfl)) ⟨rfl, hI⟩
set_option maxRecDepth 100000 in
set_option maxHeartbeats 4000000 in
/-- cenotaph/name.broken -/
theorem c25 (w0 w : World) (Z : Hp) (A : HP) (hI : Inv w0 Z w A) (hT : Tabs Z) (a0 : ByteArray) (a1 : Int) (a2 : Int) (r : Bool) (h0 : name_broken a0 a1 a2 = some r) :
    Calls prog 25 #[.string a0, .int .i64 a1, .int .i32 a2] w (fun e w' => e = .returned (.bool r) ∧ Inv w0 Z w' A) := by
  have e4 := calls_intro (R := (fun e w' => e = .returned (.bool r) ∧ Inv w0 Z w' A)) (w := w) (args := [.string a0, .int .i64 a1, .int .i32 a2]) (fn := Go.Proofs.Tryd.f25) 20 Go.Proofs.Tryd.func25 (by rfl) Go.Proofs.Tryd.ntmps25 (by kernel_rfl)
  refine e4 ?_
  clear e4
  unfold name_broken at h0
  refine CodT.seq ?_
  refine CodT.regionL [0] (by kernel_rfl) ?_
  refine OpsT.pures (r := []) [0] [0, 1, 2] (S' := [(0, .string a0), (1, .int .i64 a1), (2, .int .i32 a2)]) (by kernel_rfl) ?_
  refine OpsT.done ?_
  refine Qn.then ?_
  refine CodT.seq ?_
  refine CodT.seq ?_
  refine CodT.regionL [0, 1] (by kernel_rfl) ?_
  refine OpsT.pures (r := []) [0, 1] [0, 1, 10] (S' := [(0, .string a0), (1, .int .i64 a1), (10, .bool (a2 != 65533))]) (by kernel_rfl) ?_
  refine OpsT.done ?_
  refine Qn.then ?_
  by_cases hb1 : (a2 != 65533) = true
  · rw [if_pos hb1] at h0
    refine CodT.yes' (b := a2 != 65533) (by kernel_rfl) hb1 ?_
    refine CodT.seq ?_
    refine CodT.regionL [0] (by kernel_rfl) ?_
    refine OpsT.pures (r := []) [0] [6] (S' := [(6, .bool false)]) (by kernel_rfl) ?_
    refine OpsT.done ?_
    refine Qn.then ?_
    refine CodT.ret ?_
    refine Qn.ret_then ?_
    have e := someS h0
    subst e
    refine Qn.keep [6] (S' := [(6, .bool false)]) (by kernel_rfl) ?_
    exact post_ret (v := .bool false) (fun a ha => RunRes.run (vs := [.bool false]) (.tmp (t := 6) (by kernel_rfl) .nil) ha (by kernel_rfl)) ⟨rfl, hI⟩
  · rw [if_neg hb1] at h0
    refine CodT.no' (b := a2 != 65533) (by kernel_rfl) (by simpa using hb1) ?_
    refine CodT.skip ?_
    refine Qn.then ?_
    refine CodT.seq ?_
    refine CodT.regionL [0, 1, 2, 3, 4, 5, 6, 7, 8] (by kernel_rfl) ?_
    refine OpsT.pures (r := [2, 3, 4, 5, 6, 7, 8]) [0, 1] [12, 13] (S' := [(12, .string a0), (13, .int .i64 a1)]) (by kernel_rfl) ?_
    obtain ⟨hg2, h0⟩ := guardS h0
    refine OpsT.cons (Does.yi (Yl.sliceStr10 (d := 14) (T := 9) (s := a0) (lo := a1) (by kernel_rfl) Go.Proofs.Tryd.underlying9 hg2) hI ?_)
    obtain ⟨⟨y4, y5⟩, hc3, h0⟩ := bindS h0
    try dsimp only at h0
    refine OpsT.cons (Does.call (d := some 15) (n := 34) (vs := [.string (sx a0 a1 (a0.size : Int))]) (by kernel_rfl) en34 (c34 w0 w _ _ hI hT (sx a0 a1 (a0.size : Int)) _ hc3) ?_)
    rintro e w ⟨rfl, hI⟩
    refine ⟨_, rfl, ?_⟩
    refine OpsT.pures (r := []) [4, 5, 6, 7, 8] [8] (S' := [(8, .int .i64 y5)]) (by kernel_rfl) ?_
    refine OpsT.done ?_
    refine Qn.then ?_
    refine CodT.seq ?_
    refine CodT.regionL [0, 1, 2] (by kernel_rfl) ?_
    refine OpsT.pures (r := []) [0, 1, 2] [6] (S' := [(6, .bool (decide (y5 < 2)))]) (by kernel_rfl) ?_
    refine OpsT.done ?_
    refine Qn.then ?_
    refine CodT.ret ?_
    have e := someS h0
    subst e
    refine Qn.keep [6] (S' := [(6, .bool (decide (y5 < 2)))]) (by kernel_rfl) ?_
    exact post_ret (v := .bool (decide (y5 < 2))) (fun a ha => RunRes.run (vs := [.bool (decide (y5 < 2))]) (.tmp (t := 6) (by kernel_rfl) .nil) ha (by kernel_rfl)) ⟨rfl, hI⟩
set_option maxRecDepth 100000 in
set_option maxHeartbeats 4000000 in
/-- (*strings.Builder).String -/
theorem c26 (w0 w : World) (Z : Hp) (A : HP)  (hT : Tabs Z) (b_a0 : Nat) (a0_v_addr : Bool) (A_a0_v_buf : Option Addr) (c_a0_v_buf : Nat) (a0_v_buf : (List Int)) (hI : Inv w0 Z w (star (pt b_a0 (.cells ((([selfP b_a0 a0_v_addr, .slice A_a0_v_buf a0_v_buf.length c_a0_v_buf] : List Value))).toArray 42 (0, 0))) (star (ownS 5 (cI .u8) 1 A_a0_v_buf c_a0_v_buf a0_v_buf) A))) (r : (ByteArray × Bool × (List Int))) (h0 : strings_Builder_String a0_v_addr a0_v_buf = some r) :
    Calls prog 26 #[.pointer (some ⟨b_a0, 0, none⟩)] w (fun e w' => ∃ (A1 : Option Addr) (c1 : Nat) (Z' : Hp), Z.le Z' ∧ e = .returned (.string r.1) ∧ RdS Z' (cI .u8) 1 A1 c1 r.2.2 ∧ Inv w0 Z' w' (star (pt b_a0 (.cells ((([selfP b_a0 r.2.1, .slice A1 r.2.2.length c1] : List Value))).toArray 42 (0, 0))) A)) := by
  have e4 := calls_intro (R := (fun e w' => ∃ (A1 : Option Addr) (c1 : Nat) (Z' : Hp), Z.le Z' ∧ e = .returned (.string r.1) ∧ RdS Z' (cI .u8) 1 A1 c1 r.2.2 ∧ Inv w0 Z' w' (star (pt b_a0 (.cells ((([selfP b_a0 r.2.1, .slice A1 r.2.2.length c1] : List Value))).toArray 42 (0, 0))) A))) (w := w) (args := [.pointer (some ⟨b_a0, 0, none⟩)]) (fn := Go.Proofs.Tryd.f26) 14 Go.Proofs.Tryd.func26 (by rfl) Go.Proofs.Tryd.ntmps26 (by kernel_rfl)
  refine e4 ?_
  clear e4
  unfold strings_Builder_String at h0
  refine CodT.seq ?_
  refine CodT.regionL [0] (by kernel_rfl) ?_
  refine OpsT.pures (r := []) [0] [0] (S' := [(0, .pointer (some ⟨b_a0, 0, none⟩))]) (by kernel_rfl) ?_
  refine OpsT.done ?_
  refine Qn.then ?_
  refine CodT.seq ?_
  refine CodT.drawI (n := 12) [10] (by kernel_rfl) (by kernel_rfl) hI ?_
  intro w hI
  refine GmT.p' 0 3 (.pointer (some ⟨b_a0, 0, none⟩)) (by kernel_rfl) (by kernel_rfl) ?_
  refine GmT.p' 1 4 (.pointer (some ⟨b_a0, 0, none⟩)) (by kernel_rfl) (by kernel_rfl) ?_
  refine GmT.p' 2 5 (.pointer (some ⟨b_a0, 1, none⟩)) (by kernel_rfl) (by kernel_rfl) ?_
  refine GmT.p' 5 8 (.pointer (some ⟨b_a0, 0, none⟩)) (by kernel_rfl) (by kernel_rfl) ?_
  refine GmT.p' 6 9 (.pointer (some ⟨b_a0, 0, none⟩)) (by kernel_rfl) (by kernel_rfl) ?_
  refine GmT.p' 7 10 (.pointer (some ⟨b_a0, 1, none⟩)) (by kernel_rfl) (by kernel_rfl) ?_
  refine GmT.r (i := 3) 3 (by kernel_rfl) (by kernel_rfl) (Yl.load (d := 6) (T := 31) (v := .slice A_a0_v_buf a0_v_buf.length c_a0_v_buf) (by kernel_rfl) (ldB ty31 (l := (([selfP b_a0 a0_v_addr, .slice A_a0_v_buf a0_v_buf.length c_a0_v_buf] : List Value))) (o := 1) (v := .slice A_a0_v_buf a0_v_buf.length c_a0_v_buf) (ent_refl _) (by kernel_rfl))) hI ?_
  refine GmT.r (i := 8) 3 (by kernel_rfl) (by kernel_rfl) (Yl.load (d := 11) (T := 31) (v := .slice A_a0_v_buf a0_v_buf.length c_a0_v_buf) (by kernel_rfl) (ldB ty31 (l := (([selfP b_a0 a0_v_addr, .slice A_a0_v_buf a0_v_buf.length c_a0_v_buf] : List Value))) (o := 1) (v := .slice A_a0_v_buf a0_v_buf.length c_a0_v_buf) (ent_refl _) (by kernel_rfl))) hI ?_
  refine GmT.p' 9 12 (.int .i64 (a0_v_buf.length : Int)) (by kernel_rfl) (by kernel_rfl) ?_
  have hI := hI.mono (pick2 _ _ _)
  refine GmT.o (i := 4) (by kernel_rfl) (Does.sliceData (d := 7) (t := 31) (ty := 59) (ys := a0_v_buf) (by kernel_rfl) Go.Proofs.Tryd.underlying59 hI ?_)
  intro q1 w hq2 hI
  have hC := hI
  have hC := hC.mono (pick2 _ _ _)
  refine ⟨fun _ _ => hC, ?_⟩
  obtain ⟨hg3, h0⟩ := guardS h0
  refine GmT.o (i := 10) (by kernel_rfl) (Does.unsafeStr (d := 13) (t := 59) (it := 3) (ty := 9) (xs := a0_v_buf) (by kernel_rfl) Go.Proofs.Tryd.underlying59 (by kernel_rfl) hq2 (bytesOk_spec hg3) hI ?_)
  intro Z4 w hle5 hr6 hI
  refine ⟨fun h => absurd h (by decide), ?_⟩
  refine GmT.p' 11 2 (.string (strOfNums a0_v_buf)) (by kernel_rfl) (by kernel_rfl) ?_
  refine GmT.done (by kernel_rfl) ?_
  refine Qn.then ?_
  refine CodT.ret ?_
  have e := someS h0
  subst e
  refine Qn.keep [2] (S' := [(2, .string (strOfNums a0_v_buf))]) (by kernel_rfl) ?_
  exact post_ret (v := .string (strOfNums a0_v_buf)) (fun a ha => RunRes.run (vs := [.string (strOfNums a0_v_buf)]) (.tmp (t := 2) (by kernel_rfl) .nil) ha (by kernel_rfl)) ⟨A_a0_v_buf, c_a0_v_buf, Z4, hle5, rfl, hr6, hI⟩
set_option maxRecDepth 100000 in
set_option maxHeartbeats 4000000 in
/-- cenotaph/name.Quote -/
theorem c12 (w0 w : World) (Z : Hp) (A : HP) (hI : Inv w0 Z w A) (hT : Tabs Z) (a0 : ByteArray) (r : ByteArray) (h0 : name_Quote a0 = some r) :
    Calls prog 12 #[.string a0] w (fun e w' => e = .returned (.string r) ∧ Inv w0 Z w' A) := by
  have e4 := calls_intro (R := (fun e w' => e = .returned (.string r) ∧ Inv w0 Z w' A)) (w := w) (args := [.string a0]) (fn := Go.Proofs.Tryd.f12) 57 Go.Proofs.Tryd.func12 (by rfl) Go.Proofs.Tryd.ntmps12 (by kernel_rfl)
  refine e4 ?_
  clear e4
  unfold name_Quote at h0
  refine CodT.seq ?_
  refine CodT.regionL [0] (by kernel_rfl) ?_
  refine OpsT.pures (r := []) [0] [0] (S' := [(0, .string a0)]) (by kernel_rfl) ?_
  refine OpsT.done ?_
  refine Qn.then ?_
  refine CodT.seq ?_
  refine CodT.regionL [0] (by kernel_rfl) ?_
  refine OpsT.cons (Does.allocL (d := 3) (T := 42) [selfP 0 false, .slice none 0 0] (by kernel_rfl) ty42 hI (by kernel_rfl) ?_)
  intro b1 w hI
  replace hI := hI.eqA (A' := (star (pt b1 (.cells ((([selfP b1 false, .slice none 0 0] : List Value))).toArray 42 (0, 0))) A)) rfl
  refine OpsT.done ?_
  refine Qn.then ?_
  refine CodT.seq ?_
  refine CodT.regionL [0] (by kernel_rfl) ?_
  have hI := ownS_nil (α := Int) hI 5 (cI .u8) 1
  have hI := hI.mono (pick2 _ _ _)
  obtain ⟨⟨y3, y4, y5⟩, hc2, h0⟩ := bindS h0
  try dsimp only at h0
  refine OpsT.cons (Does.call (d := some 6) (n := 22) (vs := [.pointer (some ⟨b1, 0, none⟩), .int .u8 34]) (by kernel_rfl) en22 (c22 w0 w _ _ hT b1 false none 0 ([] : List Int) 34 hI _ hc2) ?_)
  rintro e w ⟨A6, cp7, rfl, hI⟩
  refine ⟨_, rfl, ?_⟩
  refine OpsT.done ?_
  refine Qn.then ?_
  refine CodT.seq ?_
  refine CodT.seq ?_
  refine CodT.regionL [0, 1] (by kernel_rfl) ?_
  refine OpsT.pures (r := [1]) [0] [0, 3, 7] (S' := [(0, .string a0), (3, .pointer (some ⟨b1, 0, none⟩)), (7, .string a0)]) (by kernel_rfl) ?_
  refine OpsT.cons (Does.rangeStr (d := 8) (T := 9) (s := a0) (by kernel_rfl) Go.Proofs.Tryd.underlying9 hI ?_)
  intro b8 w hI
  refine OpsT.done ?_
  refine Qn.then ?_
  obtain ⟨r1, h1, h0⟩ := bindS h0
  refine CodT.meet1 (fun a w => ∃ (x11 : Bool) (x12 : (List Int)) (Z9 : Hp) (A13 : Option Addr) (cp14 : Nat), (x11, x12) = r1 ∧ Fr 57 [(3, .pointer (some ⟨b1, 0, none⟩))] a ∧ Inv w0 Z9 w (star (ownS 5 (cI .u8) 1 A13 cp14 x12) (star (pt b1 (.cells ((([selfP b1 x11, .slice A13 x12.length cp14] : List Value))).toArray 42 (0, 0))) A)) ∧ Z.le Z9) ?_ ?_
  ·
    refine CodT.block ?_
    have hI := hI.mono (pick2 _ _ _)
    have hI := hI.mono (pick3 _ _ _ _)
    have hI := hI.mono (pick3 _ _ _ _)
    refine (fun a ha => wp_loopN (fun k a w => ∃ (x17 : Nat) (x18 : Bool) (x19 : (List Int)) (Z15 : Hp) (A20 : Option Addr) (cp21 : Nat), name_Quote.l0 a0 k x17 x18 x19 = some r1 ∧ Fr 57 [(0, .string a0), (3, .pointer (some ⟨b1, 0, none⟩)), (8, .pointer (some ⟨b8, 0, none⟩))] a ∧ Inv w0 Z15 w (star (pt b8 (.stringIter a0 x17)) (star (ownS 5 (cI .u8) 1 A20 cp21 x19) (star (pt b1 (.cells ((([selfP b1 x18, .slice A20 x19.length cp21] : List Value))).toArray 42 (0, 0))) A))) ∧ Z.le Z15) ?_ FU a w ⟨0, y4, y5, Z, A6, cp7, h1, ha.keep [0, 3, 8] (by kernel_rfl), hI, (Hp.le_refl _)⟩)
    clear h1 hI
    rintro k a w ⟨x17, x18, x19, Z15, A20, cp21, h1, ha, hI, hle16⟩
    rcases k with _ | k
    · cases h1
    simp only [name_Quote.l0] at h1
    refine CodT.of ?_ ha
    refine CodT.seq ?_
    refine CodT.regionL [0, 1] (by kernel_rfl) ?_
    by_cases hb22 : x17 < a0.size
    · rw [if_pos hb22] at h1
      refine OpsT.cons (Does.nextStr (d := 9) (b := b8) (pos := x17) (s := a0) (by kernel_rfl) hI hb22 ?_)
      intro w hI
      refine OpsT.pures (r := []) [1] [0, 3, 8, 9, 10] (S' := [(0, .string a0), (3, .pointer (some ⟨b1, 0, none⟩)), (8, .pointer (some ⟨b8, 0, none⟩)), (9, .tuple #[.bool true, .int .i64 (x17 : Int), .int .i32 (runeAt a0 x17)]), (10, .bool true)]) (by kernel_rfl) ?_
      refine OpsT.done ?_
      refine Qn.then ?_
      refine CodT.seq ?_
      refine CodT.yes (by kernel_rfl) ?_
      refine CodT.skip ?_
      refine Qn.then ?_
      refine CodT.block ?_
      refine CodT.seq ?_
      refine CodT.regionL [0, 1, 2, 3] (by kernel_rfl) ?_
      refine OpsT.pures (r := []) [0, 1, 2, 3] [0, 3, 4, 5, 8] (S' := [(0, .string a0), (3, .pointer (some ⟨b1, 0, none⟩)), (4, .int .i64 (x17 : Int)), (5, .int .i32 (runeAt a0 x17)), (8, .pointer (some ⟨b8, 0, none⟩))]) (by kernel_rfl) ?_
      refine OpsT.done ?_
      refine Qn.then ?_
      refine CodT.block ?_
      obtain ⟨r2, h2, h1⟩ := bindS h1
      refine CodT.meet (fun a w => ∃ (x23 : Bool), x23 = r2 ∧ Fr 57 [(0, .string a0), (3, .pointer (some ⟨b1, 0, none⟩)), (4, .int .i64 (x17 : Int)), (5, .int .i32 (runeAt a0 x17)), (8, .pointer (some ⟨b8, 0, none⟩)), (15, .bool x23)] a ∧ Inv w0 Z15 w (star (pt b8 (.stringIter a0 (x17 + runeW a0 x17))) (star (pt b1 (.cells ((([selfP b1 x18, .slice A20 x19.length cp21] : List Value))).toArray 42 (0, 0))) (star (ownS 5 (cI .u8) 1 A20 cp21 x19) A)))) ?_ ?_
      ·
        refine CodT.regionL [0, 1, 2, 3, 4, 5, 6] (by kernel_rfl) ?_
        refine OpsT.pures (r := [3, 4, 5, 6]) [0, 1, 2] [0, 3, 4, 5, 8, 18] (S' := [(0, .string a0), (3, .pointer (some ⟨b1, 0, none⟩)), (4, .int .i64 (x17 : Int)), (5, .int .i32 (runeAt a0 x17)), (8, .pointer (some ⟨b8, 0, none⟩)), (18, .bool ((runeAt a0 x17) == 34))]) (by kernel_rfl) ?_
        by_cases hb24 : ((runeAt a0 x17) == 34) = true
        · rw [if_pos hb24] at h2
          refine OpsT.keep [0, 3, 4, 5, 8, 18] (S' := [(0, .string a0), (3, .pointer (some ⟨b1, 0, none⟩)), (4, .int .i64 (x17 : Int)), (5, .int .i32 (runeAt a0 x17)), (8, .pointer (some ⟨b8, 0, none⟩)), (18, .bool true)]) (by simp only [hb24]; kernel_rfl) ?_
          refine OpsT.pures (r := []) [3, 4, 5, 6] [0, 3, 4, 5, 8, 15] (S' := [(0, .string a0), (3, .pointer (some ⟨b1, 0, none⟩)), (4, .int .i64 (x17 : Int)), (5, .int .i32 (runeAt a0 x17)), (8, .pointer (some ⟨b8, 0, none⟩)), (15, .bool true)]) (by kernel_rfl) ?_
          refine OpsT.done ?_
          have hI := hI.mono (pick2 _ _ _)
          have hI := hI.mono (pick3 _ _ _ _)
          have hI := hI.mono (pick3 _ _ _ _)
          have e := someS h2
          subst e
          exact Qn.thenJ fun a ha => ⟨true, rfl, ha.keep [0, 3, 4, 5, 8, 15] (by kernel_rfl), hI⟩
        · rw [if_neg hb24] at h2
          have hb24 : ((runeAt a0 x17) == 34) = false := by simpa using hb24
          refine OpsT.keep [0, 3, 4, 5, 8, 18] (S' := [(0, .string a0), (3, .pointer (some ⟨b1, 0, none⟩)), (4, .int .i64 (x17 : Int)), (5, .int .i32 (runeAt a0 x17)), (8, .pointer (some ⟨b8, 0, none⟩)), (18, .bool false)]) (by simp only [hb24]; kernel_rfl) ?_
          refine OpsT.pures (r := []) [3, 4, 5, 6] [0, 3, 4, 5, 8, 15] (S' := [(0, .string a0), (3, .pointer (some ⟨b1, 0, none⟩)), (4, .int .i64 (x17 : Int)), (5, .int .i32 (runeAt a0 x17)), (8, .pointer (some ⟨b8, 0, none⟩)), (15, .bool ((runeAt a0 x17) == 92))]) (by kernel_rfl) ?_
          refine OpsT.done ?_
          have hI := hI.mono (pick2 _ _ _)
          have hI := hI.mono (pick3 _ _ _ _)
          have hI := hI.mono (pick3 _ _ _ _)
          have e := someS h2
          subst e
          exact Qn.thenJ fun a ha => ⟨(runeAt a0 x17) == 92, rfl, ha.keep [0, 3, 4, 5, 8, 15] (by kernel_rfl), hI⟩
      ·
        rintro a w ⟨x23, rfl, ha, hI⟩
        try dsimp only at h1
        refine CodT.of ?_ ha
        by_cases hb25 : x23 = true
        · rw [if_pos hb25] at h1
          refine CodT.yes' (b := x23) (by kernel_rfl) hb25 ?_
          refine CodT.seq ?_
          refine CodT.regionL [0] (by kernel_rfl) ?_
          have hI := hI.mono (pick3 _ _ _ _)
          have hI := hI.mono (pick3 _ _ _ _)
          obtain ⟨⟨y27, y28, y29⟩, hc26, h1⟩ := bindS h1
          try dsimp only at h1
          refine OpsT.cons (Does.call (d := some 22) (n := 22) (vs := [.pointer (some ⟨b1, 0, none⟩), .int .u8 92]) (by kernel_rfl) en22 (c22 w0 w _ _ (hT.mono hle16) b1 x18 A20 cp21 x19 92 hI _ hc26) ?_)
          rintro e w ⟨A30, cp31, rfl, hI⟩
          refine ⟨_, rfl, ?_⟩
          refine OpsT.done ?_
          refine Qn.then ?_
          refine CodT.regionL [0, 1] (by kernel_rfl) ?_
          refine OpsT.pures (r := [1]) [0] [0, 3, 8, 23] (S' := [(0, .string a0), (3, .pointer (some ⟨b1, 0, none⟩)), (8, .pointer (some ⟨b8, 0, none⟩)), (23, .int .i32 (runeAt a0 x17))]) (by kernel_rfl) ?_
          have hI := hI.mono (pick2 _ _ _)
          have hI := hI.mono (pick2 _ _ _)
          obtain ⟨⟨y33, y34, y35, y36⟩, hc32, h1⟩ := bindS h1
          try dsimp only at h1
          refine OpsT.cons (Does.call (d := some 24) (n := 23) (vs := [.pointer (some ⟨b1, 0, none⟩), .int .i32 (runeAt a0 x17)]) (by kernel_rfl) en23 (c23 w0 w _ _ (hT.mono hle16) b1 y28 A30 cp31 y29 (runeAt a0 x17) hI _ hc32) ?_)
          rintro e w ⟨A37, cp38, rfl, hI⟩
          refine ⟨_, rfl, ?_⟩
          refine OpsT.done ?_
          refine Qn.block_normal ?_
          refine Qn.block_normal ?_
          have hI := hI.mono (pick2 _ _ _)
          have hI := hI.mono (pick3 _ _ _ _)
          exact Qn.thenJ fun a ha => ⟨k, Nat.lt_succ_self k, x17 + runeW a0 x17, y35, y36, Z15, A37, cp38, h1, ha.keep [0, 3, 8] (by kernel_rfl), hI, hle16⟩
        · rw [if_neg hb25] at h1
          refine CodT.no' (b := x23) (by kernel_rfl) (by simpa using hb25) ?_
          refine CodT.seq ?_
          refine CodT.regionL [0, 1, 2] (by kernel_rfl) ?_
          refine OpsT.pures (r := []) [0, 1, 2] [0, 3, 4, 5, 8, 25] (S' := [(0, .string a0), (3, .pointer (some ⟨b1, 0, none⟩)), (4, .int .i64 (x17 : Int)), (5, .int .i32 (runeAt a0 x17)), (8, .pointer (some ⟨b8, 0, none⟩)), (25, .bool ((runeAt a0 x17) == 10))]) (by kernel_rfl) ?_
          refine OpsT.done ?_
          refine Qn.then ?_
          by_cases hb39 : ((runeAt a0 x17) == 10) = true
          · rw [if_pos hb39] at h1
            refine CodT.yes' (b := (runeAt a0 x17) == 10) (by kernel_rfl) hb39 ?_
            refine CodT.regionL [0, 1] (by kernel_rfl) ?_
            refine OpsT.cons (Does.buildSlice (en := (cI .u8)) (d := 28) (n := 2) (T := 31) (ps := [(0, .int .u8 92), (1, .int .u8 110)]) ([92, 110] : List Int) (by kernel_rfl) Go.Proofs.Tryd.underlying31 ty5 (by kernel_rfl) (by kernel_rfl) (by kernel_rfl) (by kernel_rfl) (len_all (fun _ => rfl)) hI ?_)
            intro b40 w hI
            obtain ⟨Z41, hle42, hr43, hI⟩ := ownS_freeze hI
            have hI := hI.mono (pick3 _ _ _ _)
            have hI := hI.mono (pick3 _ _ _ _)
            obtain ⟨⟨y45, y46, y47, y48⟩, hc44, h1⟩ := bindS h1
            try dsimp only at h1
            refine OpsT.cons (Does.call (d := some 29) (n := 24) (vs := [.pointer (some ⟨b1, 0, none⟩), .slice (some ⟨b40, 0, none⟩) (([92, 110] : List Int).length) 2]) (by kernel_rfl) en24 (c24 w0 w _ _ (hT.mono (Hp.le_trans hle16 hle42)) b1 x18 A20 cp21 x19 (some ⟨b40, 0, none⟩) 2 ([92, 110] : List Int) hr43 hI _ hc44) ?_)
            rintro e w ⟨A49, cp50, rfl, hI⟩
            refine ⟨_, rfl, ?_⟩
            refine OpsT.done ?_
            refine Qn.block_normal ?_
            refine Qn.block_normal ?_
            have hI := hI.mono (pick2 _ _ _)
            have hI := hI.mono (pick3 _ _ _ _)
            exact Qn.thenJ fun a ha => ⟨k, Nat.lt_succ_self k, x17 + runeW a0 x17, y47, y48, Z41, A49, cp50, h1, ha.keep [0, 3, 8] (by kernel_rfl), hI, (Hp.le_trans hle16 hle42)⟩
          · rw [if_neg hb39] at h1
            refine CodT.no' (b := (runeAt a0 x17) == 10) (by kernel_rfl) (by simpa using hb39) ?_
            obtain ⟨r2, h2, h1⟩ := bindS h1
            refine CodT.meet (fun a w => ∃ (x51 : Bool), x51 = r2 ∧ Fr 57 [(0, .string a0), (3, .pointer (some ⟨b1, 0, none⟩)), (4, .int .i64 (x17 : Int)), (5, .int .i32 (runeAt a0 x17)), (8, .pointer (some ⟨b8, 0, none⟩)), (30, .bool x51)] a ∧ Inv w0 Z15 w (star (pt b8 (.stringIter a0 (x17 + runeW a0 x17))) (star (pt b1 (.cells ((([selfP b1 x18, .slice A20 x19.length cp21] : List Value))).toArray 42 (0, 0))) (star (ownS 5 (cI .u8) 1 A20 cp21 x19) A)))) ?_ ?_
            ·
              refine CodT.regionL [0, 1, 2, 3, 4, 5, 6, 7, 8, 9, 10, 11, 12] (by kernel_rfl) ?_
              refine OpsT.pures (r := [3, 4, 5, 6, 7, 8, 9, 10, 11, 12]) [0, 1, 2] [0, 3, 4, 5, 8, 33] (S' := [(0, .string a0), (3, .pointer (some ⟨b1, 0, none⟩)), (4, .int .i64 (x17 : Int)), (5, .int .i32 (runeAt a0 x17)), (8, .pointer (some ⟨b8, 0, none⟩)), (33, .bool (decide ((runeAt a0 x17) < 32)))]) (by kernel_rfl) ?_
              by_cases hb52 : (decide ((runeAt a0 x17) < 32)) = true
              · rw [if_pos hb52] at h2
                refine OpsT.keep [0, 3, 4, 5, 8, 33] (S' := [(0, .string a0), (3, .pointer (some ⟨b1, 0, none⟩)), (4, .int .i64 (x17 : Int)), (5, .int .i32 (runeAt a0 x17)), (8, .pointer (some ⟨b8, 0, none⟩)), (33, .bool true)]) (by simp only [hb52]; kernel_rfl) ?_
                refine OpsT.pures (r := []) [3, 4, 5, 6, 7, 8, 9, 10, 11, 12] [0, 3, 4, 5, 8, 30] (S' := [(0, .string a0), (3, .pointer (some ⟨b1, 0, none⟩)), (4, .int .i64 (x17 : Int)), (5, .int .i32 (runeAt a0 x17)), (8, .pointer (some ⟨b8, 0, none⟩)), (30, .bool true)]) (by kernel_rfl) ?_
                refine OpsT.done ?_
                have e := someS h2
                subst e
                exact Qn.thenJ fun a ha => ⟨true, rfl, ha.keep [0, 3, 4, 5, 8, 30] (by kernel_rfl), hI⟩
              · rw [if_neg hb52] at h2
                have hb52 : (decide ((runeAt a0 x17) < 32)) = false := by simpa using hb52
                refine OpsT.keep [0, 3, 4, 5, 8, 33] (S' := [(0, .string a0), (3, .pointer (some ⟨b1, 0, none⟩)), (4, .int .i64 (x17 : Int)), (5, .int .i32 (runeAt a0 x17)), (8, .pointer (some ⟨b8, 0, none⟩)), (33, .bool false)]) (by simp only [hb52]; kernel_rfl) ?_
                refine OpsT.pures (r := [7, 8, 9, 10, 11, 12]) [3, 4, 5, 6] [0, 3, 4, 5, 8, 37] (S' := [(0, .string a0), (3, .pointer (some ⟨b1, 0, none⟩)), (4, .int .i64 (x17 : Int)), (5, .int .i32 (runeAt a0 x17)), (8, .pointer (some ⟨b8, 0, none⟩)), (37, .bool ((runeAt a0 x17) == 127))]) (by kernel_rfl) ?_
                by_cases hb53 : ((runeAt a0 x17) == 127) = true
                · rw [if_pos hb53] at h2
                  refine OpsT.keep [0, 3, 4, 5, 8, 37] (S' := [(0, .string a0), (3, .pointer (some ⟨b1, 0, none⟩)), (4, .int .i64 (x17 : Int)), (5, .int .i32 (runeAt a0 x17)), (8, .pointer (some ⟨b8, 0, none⟩)), (37, .bool true)]) (by simp only [hb53]; kernel_rfl) ?_
                  refine OpsT.pures (r := []) [7, 8, 9, 10, 11, 12] [0, 3, 4, 5, 8, 30] (S' := [(0, .string a0), (3, .pointer (some ⟨b1, 0, none⟩)), (4, .int .i64 (x17 : Int)), (5, .int .i32 (runeAt a0 x17)), (8, .pointer (some ⟨b8, 0, none⟩)), (30, .bool true)]) (by kernel_rfl) ?_
                  refine OpsT.done ?_
                  have e := someS h2
                  subst e
                  exact Qn.thenJ fun a ha => ⟨true, rfl, ha.keep [0, 3, 4, 5, 8, 30] (by kernel_rfl), hI⟩
                · rw [if_neg hb53] at h2
                  have hb53 : ((runeAt a0 x17) == 127) = false := by simpa using hb53
                  refine OpsT.keep [0, 3, 4, 5, 8, 37] (S' := [(0, .string a0), (3, .pointer (some ⟨b1, 0, none⟩)), (4, .int .i64 (x17 : Int)), (5, .int .i32 (runeAt a0 x17)), (8, .pointer (some ⟨b8, 0, none⟩)), (37, .bool false)]) (by simp only [hb53]; kernel_rfl) ?_
                  refine OpsT.pures (r := [10, 11, 12]) [7, 8, 9] [0, 3, 4, 5, 8, 37, 38, 39, 40] (S' := [(0, .string a0), (3, .pointer (some ⟨b1, 0, none⟩)), (4, .int .i64 (x17 : Int)), (5, .int .i32 (runeAt a0 x17)), (8, .pointer (some ⟨b8, 0, none⟩)), (37, .bool false), (38, .string a0), (39, .int .i64 (x17 : Int)), (40, .int .i32 (runeAt a0 x17))]) (by kernel_rfl) ?_
                  obtain ⟨y55, hc54, h2⟩ := bindS h2
                  try dsimp only at h2
                  refine OpsT.cons (Does.call (d := some 41) (n := 25) (vs := [.string a0, .int .i64 (x17 : Int), .int .i32 (runeAt a0 x17)]) (by kernel_rfl) en25 (c25 w0 w _ _ hI (hT.mono hle16) a0 (x17 : Int) (runeAt a0 x17) _ hc54) ?_)
                  rintro e w ⟨rfl, hI⟩
                  refine ⟨_, rfl, ?_⟩
                  refine OpsT.pures (r := []) [11, 12] [0, 3, 4, 5, 8, 30] (S' := [(0, .string a0), (3, .pointer (some ⟨b1, 0, none⟩)), (4, .int .i64 (x17 : Int)), (5, .int .i32 (runeAt a0 x17)), (8, .pointer (some ⟨b8, 0, none⟩)), (30, .bool y55)]) (by kernel_rfl) ?_
                  refine OpsT.done ?_
                  have e := someS h2
                  subst e
                  exact Qn.thenJ fun a ha => ⟨y55, rfl, ha.keep [0, 3, 4, 5, 8, 30] (by kernel_rfl), hI⟩
            ·
              rintro a w ⟨x51, rfl, ha, hI⟩
              try dsimp only at h1
              refine CodT.of ?_ ha
              by_cases hb56 : x51 = true
              · rw [if_pos hb56] at h1
                refine CodT.yes' (b := x51) (by kernel_rfl) hb56 ?_
                refine CodT.drawI (n := 12) [11] (by kernel_rfl) (by kernel_rfl) hI ?_
                intro w hI
                refine GmT.p' 0 43 (.string a0) (by kernel_rfl) (by kernel_rfl) ?_
                refine GmT.p' 1 44 (.int .i64 (x17 : Int)) (by kernel_rfl) (by kernel_rfl) ?_
                refine GmT.p' 5 48 (.string a0) (by kernel_rfl) (by kernel_rfl) ?_
                refine GmT.p' 6 49 (.int .i64 (x17 : Int)) (by kernel_rfl) (by kernel_rfl) ?_
                obtain ⟨hg57, h1⟩ := guardS h1
                refine GmT.r (i := 2) 5 (by kernel_rfl) (by kernel_rfl) (Yl.indexStr (d := 45) (T := 9) (k := .i64) (j := (x17 : Int)) (s := a0) (by kernel_rfl) Go.Proofs.Tryd.underlying9 hg57.1 hg57.2) hI ?_
                refine GmT.p' 3 46 (.int .u8 (bShr .u8 (bt a0 (x17 : Int)) 4)) (by kernel_rfl) (by kernel_rfl) ?_
                obtain ⟨hg58, h1⟩ := guardS h1
                refine GmT.r (i := 4) 3 (by kernel_rfl) (by kernel_rfl) (Yl.indexStr (d := 47) (T := 9) (k := .u8) (j := bShr .u8 (bt a0 (x17 : Int)) 4) (s := (⟨#[48, 49, 50, 51, 52, 53, 54, 55, 56, 57, 97, 98, 99, 100, 101, 102]⟩ : ByteArray)) (by kernel_rfl) Go.Proofs.Tryd.underlying9 hg58.1 hg58.2) hI ?_
                obtain ⟨hg59, h1⟩ := guardS h1
                refine GmT.r (i := 7) 5 (by kernel_rfl) (by kernel_rfl) (Yl.indexStr (d := 50) (T := 9) (k := .i64) (j := (x17 : Int)) (s := a0) (by kernel_rfl) Go.Proofs.Tryd.underlying9 hg59.1 hg59.2) hI ?_
                refine GmT.p' 8 51 (.int .u8 (bAnd .u8 (bt a0 (x17 : Int)) 15)) (by kernel_rfl) (by kernel_rfl) ?_
                obtain ⟨hg60, h1⟩ := guardS h1
                refine GmT.r (i := 9) 3 (by kernel_rfl) (by kernel_rfl) (Yl.indexStr (d := 52) (T := 9) (k := .u8) (j := bAnd .u8 (bt a0 (x17 : Int)) 15) (s := (⟨#[48, 49, 50, 51, 52, 53, 54, 55, 56, 57, 97, 98, 99, 100, 101, 102]⟩ : ByteArray)) (by kernel_rfl) Go.Proofs.Tryd.underlying9 hg60.1 hg60.2) hI ?_
                refine GmT.o (i := 10) (by kernel_rfl) (Does.buildSlice (en := (cI .u8)) (d := 53) (n := 4) (T := 31) (ps := [(0, .int .u8 92), (1, .int .u8 120), (2, .int .u8 (bt (⟨#[48, 49, 50, 51, 52, 53, 54, 55, 56, 57, 97, 98, 99, 100, 101, 102]⟩ : ByteArray) (bShr .u8 (bt a0 (x17 : Int)) 4))), (3, .int .u8 (bt (⟨#[48, 49, 50, 51, 52, 53, 54, 55, 56, 57, 97, 98, 99, 100, 101, 102]⟩ : ByteArray) (bAnd .u8 (bt a0 (x17 : Int)) 15)))]) ([92, 120, bt (⟨#[48, 49, 50, 51, 52, 53, 54, 55, 56, 57, 97, 98, 99, 100, 101, 102]⟩ : ByteArray) (bShr .u8 (bt a0 (x17 : Int)) 4), bt (⟨#[48, 49, 50, 51, 52, 53, 54, 55, 56, 57, 97, 98, 99, 100, 101, 102]⟩ : ByteArray) (bAnd .u8 (bt a0 (x17 : Int)) 15)] : List Int) (by kernel_rfl) Go.Proofs.Tryd.underlying31 ty5 (by kernel_rfl) (by kernel_rfl) (by kernel_rfl) (by kernel_rfl) (len_all (fun _ => rfl)) hI ?_)
                intro b61 w hI
                have hC := hI
                have hC := hC.drop
                refine ⟨fun _ _ => hC, ?_⟩
                obtain ⟨Z62, hle63, hr64, hI⟩ := ownS_freeze hI
                have hI := hI.mono (pick3 _ _ _ _)
                have hI := hI.mono (pick3 _ _ _ _)
                obtain ⟨⟨y66, y67, y68, y69⟩, hc65, h1⟩ := bindS h1
                try dsimp only at h1
                refine GmT.o (i := 11) (by kernel_rfl) (Does.call (d := some 54) (n := 24) (vs := [.pointer (some ⟨b1, 0, none⟩), .slice (some ⟨b61, 0, none⟩) (([92, 120, bt (⟨#[48, 49, 50, 51, 52, 53, 54, 55, 56, 57, 97, 98, 99, 100, 101, 102]⟩ : ByteArray) (bShr .u8 (bt a0 (x17 : Int)) 4), bt (⟨#[48, 49, 50, 51, 52, 53, 54, 55, 56, 57, 97, 98, 99, 100, 101, 102]⟩ : ByteArray) (bAnd .u8 (bt a0 (x17 : Int)) 15)] : List Int).length) 4]) (by kernel_rfl) en24 (c24 w0 w _ _ (hT.mono (Hp.le_trans hle16 hle63)) b1 x18 A20 cp21 x19 (some ⟨b61, 0, none⟩) 4 ([92, 120, bt (⟨#[48, 49, 50, 51, 52, 53, 54, 55, 56, 57, 97, 98, 99, 100, 101, 102]⟩ : ByteArray) (bShr .u8 (bt a0 (x17 : Int)) 4), bt (⟨#[48, 49, 50, 51, 52, 53, 54, 55, 56, 57, 97, 98, 99, 100, 101, 102]⟩ : ByteArray) (bAnd .u8 (bt a0 (x17 : Int)) 15)] : List Int) hr64 hI _ hc65) ?_)
                rintro e w ⟨A70, cp71, rfl, hI⟩
                refine ⟨_, rfl, ?_⟩
                refine ⟨fun h => absurd h (by decide), ?_⟩
                refine GmT.done (by kernel_rfl) ?_
                refine Qn.block_normal ?_
                refine Qn.block_normal ?_
                have hI := hI.mono (pick2 _ _ _)
                have hI := hI.mono (pick3 _ _ _ _)
                exact Qn.thenJ fun a ha => ⟨k, Nat.lt_succ_self k, x17 + runeW a0 x17, y68, y69, Z62, A70, cp71, h1, ha.keep [0, 3, 8] (by kernel_rfl), hI, (Hp.le_trans hle16 hle63)⟩
              · rw [if_neg hb56] at h1
                refine CodT.no' (b := x51) (by kernel_rfl) (by simpa using hb56) ?_
                refine CodT.regionL [0, 1] (by kernel_rfl) ?_
                refine OpsT.pures (r := [1]) [0] [0, 3, 8, 13] (S' := [(0, .string a0), (3, .pointer (some ⟨b1, 0, none⟩)), (8, .pointer (some ⟨b8, 0, none⟩)), (13, .int .i32 (runeAt a0 x17))]) (by kernel_rfl) ?_
                have hI := hI.mono (pick3 _ _ _ _)
                have hI := hI.mono (pick3 _ _ _ _)
                obtain ⟨⟨y73, y74, y75, y76⟩, hc72, h1⟩ := bindS h1
                try dsimp only at h1
                refine OpsT.cons (Does.call (d := some 14) (n := 23) (vs := [.pointer (some ⟨b1, 0, none⟩), .int .i32 (runeAt a0 x17)]) (by kernel_rfl) en23 (c23 w0 w _ _ (hT.mono hle16) b1 x18 A20 cp21 x19 (runeAt a0 x17) hI _ hc72) ?_)
                rintro e w ⟨A77, cp78, rfl, hI⟩
                refine ⟨_, rfl, ?_⟩
                refine OpsT.done ?_
                refine Qn.block_normal ?_
                refine Qn.block_normal ?_
                have hI := hI.mono (pick2 _ _ _)
                have hI := hI.mono (pick3 _ _ _ _)
                exact Qn.thenJ fun a ha => ⟨k, Nat.lt_succ_self k, x17 + runeW a0 x17, y75, y76, Z15, A77, cp78, h1, ha.keep [0, 3, 8] (by kernel_rfl), hI, hle16⟩
    · rw [if_neg hb22] at h1
      refine OpsT.cons (Does.nextEnd (d := 9) (b := b8) (pos := x17) (s := a0) (by kernel_rfl) hI hb22 ?_)
      refine OpsT.pures (r := []) [1] [0, 3, 8, 9, 10] (S' := [(0, .string a0), (3, .pointer (some ⟨b1, 0, none⟩)), (8, .pointer (some ⟨b8, 0, none⟩)), (9, .tuple #[.bool false]), (10, .bool false)]) (by kernel_rfl) ?_
      refine OpsT.done ?_
      refine Qn.then ?_
      refine CodT.seq ?_
      refine CodT.no (by kernel_rfl) ?_
      refine CodT.exit ?_
      refine Qn.exit_then ?_
      refine Qn.exit_then ?_
      refine Qn.block ?_
      have hI := hI.drop
      have e := someS h1
      subst e
      exact Qn.thenJ fun a ha => ⟨x18, x19, Z15, A20, cp21, rfl, ha.keep [3] (by kernel_rfl), hI, hle16⟩
  ·
    rintro a w ⟨x11, x12, Z9, A13, cp14, rfl, ha, hI, hle10⟩
    try dsimp only at h0
    refine Qn.of ?_ ha
    refine Qn.then ?_
    refine CodT.seq ?_
    refine CodT.regionL [0] (by kernel_rfl) ?_
    have hI := hI.mono (pick2 _ _ _)
    obtain ⟨⟨y80, y81, y82⟩, hc79, h0⟩ := bindS h0
    try dsimp only at h0
    refine OpsT.cons (Does.call (d := some 55) (n := 22) (vs := [.pointer (some ⟨b1, 0, none⟩), .int .u8 34]) (by kernel_rfl) en22 (c22 w0 w _ _ (hT.mono hle10) b1 x11 A13 cp14 x12 34 hI _ hc79) ?_)
    rintro e w ⟨A83, cp84, rfl, hI⟩
    refine ⟨_, rfl, ?_⟩
    refine OpsT.done ?_
    refine Qn.then ?_
    refine CodT.seq ?_
    refine CodT.regionL [0, 1] (by kernel_rfl) ?_
    have hI := hI.mono (pick2 _ _ _)
    have hI := hI.mono (pick2 _ _ _)
    obtain ⟨⟨y86, y87, y88⟩, hc85, h0⟩ := bindS h0
    try dsimp only at h0
    refine OpsT.cons (Does.call (d := some 56) (n := 26) (vs := [.pointer (some ⟨b1, 0, none⟩)]) (by kernel_rfl) en26 (c26 w0 w _ _ (hT.mono hle10) b1 y81 A83 cp84 y82 hI _ hc85) ?_)
    rintro e w ⟨A89, cp90, Z92, hle93, rfl, hr91, hI⟩
    refine ⟨_, rfl, ?_⟩
    refine OpsT.pures (r := []) [1] [2] (S' := [(2, .string y86)]) (by kernel_rfl) ?_
    refine OpsT.done ?_
    refine Qn.then ?_
    refine CodT.ret ?_
    have hI := hI.drop
    have e := someS h0
    subst e
    refine Qn.keep [2] (S' := [(2, .string y86)]) (by kernel_rfl) ?_
    exact post_ret (v := .string y86) (fun a ha => RunRes.run (vs := [.string y86]) (.tmp (t := 2) (by kernel_rfl) .nil) ha (by kernel_rfl)) ⟨rfl, hI.weaken (Hp.le_trans hle10 hle93)⟩
set_option maxRecDepth 100000 in
set_option maxHeartbeats 4000000 in
/-- internal/stringslite.HasPrefix -/
theorem c35 (w0 w : World) (Z : Hp) (A : HP) (hI : Inv w0 Z w A) (hT : Tabs Z) (a0 : ByteArray) (a1 : ByteArray) (r : Bool) (h0 : stringslite_HasPrefix a0 a1 = some r) :
    Calls prog 35 #[.string a0, .string a1] w (fun e w' => e = .returned (.bool r) ∧ Inv w0 Z w' A) := by
  have e4 := calls_intro (R := (fun e w' => e = .returned (.bool r) ∧ Inv w0 Z w' A)) (w := w) (args := [.string a0, .string a1]) (fn := Go.Proofs.Tryd.f35) 18 Go.Proofs.Tryd.func35 (by rfl) Go.Proofs.Tryd.ntmps35 (by kernel_rfl)
  refine e4 ?_
  clear e4
  unfold stringslite_HasPrefix at h0
  refine CodT.seq ?_
  refine CodT.regionL [0] (by kernel_rfl) ?_
  refine OpsT.pures (r := []) [0] [0, 1] (S' := [(0, .string a0), (1, .string a1)]) (by kernel_rfl) ?_
  refine OpsT.done ?_
  refine Qn.then ?_
  obtain ⟨r1, h1, h0⟩ := bindS h0
  refine CodT.meet (fun a w => ∃ (x1 : Bool), x1 = r1 ∧ Fr 18 [(4, .bool x1)] a ∧ Inv w0 Z w A) ?_ ?_
  ·
    refine CodT.regionL [0, 1, 2, 3, 4, 5, 6, 7, 8, 9, 10, 11, 12, 13] (by kernel_rfl) ?_
    refine OpsT.pures (r := [6, 7, 8, 9, 10, 11, 12, 13]) [0, 1, 2, 3, 4, 5] [0, 1, 10] (S' := [(0, .string a0), (1, .string a1), (10, .bool (decide ((a0.size : Int) ≥ (a1.size : Int))))]) (by kernel_rfl) ?_
    by_cases hb2 : (decide ((a0.size : Int) ≥ (a1.size : Int))) = true
    · rw [if_pos hb2] at h1
      refine OpsT.keep [0, 1, 10] (S' := [(0, .string a0), (1, .string a1), (10, .bool true)]) (by simp only [hb2]; kernel_rfl) ?_
      refine OpsT.pures (r := [9, 10, 11, 12, 13]) [6, 7, 8] [1, 10, 11, 13] (S' := [(1, .string a1), (10, .bool true), (11, .string a0), (13, .int .i64 (a1.size : Int))]) (by kernel_rfl) ?_
      obtain ⟨hg3, h1⟩ := guardS h1
      refine OpsT.cons (Does.yi (Yl.sliceStr01 (d := 14) (T := 9) (s := a0) (hi := (a1.size : Int)) (by kernel_rfl) Go.Proofs.Tryd.underlying9 hg3) hI ?_)
      refine OpsT.pures (r := []) [10, 11, 12, 13] [4] (S' := [(4, .bool (seq (sx a0 0 (a1.size : Int)) a1))]) (by kernel_rfl) ?_
      refine OpsT.done ?_
      have e := someS h1
      subst e
      exact Qn.thenJ fun a ha => ⟨seq (sx a0 0 (a1.size : Int)) a1, rfl, ha.keep [4] (by kernel_rfl), hI⟩
    · rw [if_neg hb2] at h1
      have hb2 : (decide ((a0.size : Int) ≥ (a1.size : Int))) = false := by simpa using hb2
      refine OpsT.keep [0, 1, 10] (S' := [(0, .string a0), (1, .string a1), (10, .bool false)]) (by simp only [hb2]; kernel_rfl) ?_
      refine OpsT.pures (r := []) [6, 7, 8, 9, 10, 11, 12, 13] [4] (S' := [(4, .bool false)]) (by kernel_rfl) ?_
      refine OpsT.done ?_
      have e := someS h1
      subst e
      exact Qn.thenJ fun a ha => ⟨false, rfl, ha.keep [4] (by kernel_rfl), hI⟩
  ·
    rintro a w ⟨x1, rfl, ha, hI⟩
    try dsimp only at h0
    refine CodT.of ?_ ha
    refine CodT.ret ?_
    have e := someS h0
    subst e
    refine Qn.keep [4] (S' := [(4, .bool x1)]) (by kernel_rfl) ?_
    exact post_ret (v := .bool x1) (fun a ha => RunRes.run (vs := [.bool x1]) (.tmp (t := 4) (by kernel_rfl) .nil) ha (by kernel_rfl)) ⟨rfl, hI⟩
set_option maxRecDepth 100000 in
set_option maxHeartbeats 4000000 in
/-- internal/stringslite.CutPrefix -/
theorem c28 (w0 w : World) (Z : Hp) (A : HP) (hI : Inv w0 Z w A) (hT : Tabs Z) (a0 : ByteArray) (a1 : ByteArray) (r : (ByteArray × Bool)) (h0 : stringslite_CutPrefix a0 a1 = some r) :
    Calls prog 28 #[.string a0, .string a1] w (fun e w' => e = .returned (.tuple #[.string r.1, .bool r.2]) ∧ Inv w0 Z w' A) := by
  have e4 := calls_intro (R := (fun e w' => e = .returned (.tuple #[.string r.1, .bool r.2]) ∧ Inv w0 Z w' A)) (w := w) (args := [.string a0, .string a1]) (fn := Go.Proofs.Tryd.f28) 15 Go.Proofs.Tryd.func28 (by rfl) Go.Proofs.Tryd.ntmps28 (by kernel_rfl)
  refine e4 ?_
  clear e4
  unfold stringslite_CutPrefix at h0
  refine CodT.seq ?_
  refine CodT.regionL [0, 1] (by kernel_rfl) ?_
  refine OpsT.pures (r := []) [0, 1] [0, 1] (S' := [(0, .string a0), (1, .string a1)]) (by kernel_rfl) ?_
  refine OpsT.done ?_
  refine Qn.then ?_
  refine CodT.seq ?_
  refine CodT.seq ?_
  refine CodT.regionL [0, 1, 2, 3] (by kernel_rfl) ?_
  refine OpsT.pures (r := [2, 3]) [0, 1] [0, 1, 6, 7] (S' := [(0, .string a0), (1, .string a1), (6, .string a0), (7, .string a1)]) (by kernel_rfl) ?_
  obtain ⟨y2, hc1, h0⟩ := bindS h0
  try dsimp only at h0
  refine OpsT.cons (Does.call (d := some 8) (n := 35) (vs := [.string a0, .string a1]) (by kernel_rfl) en35 (c35 w0 w _ _ hI hT a0 a1 _ hc1) ?_)
  rintro e w ⟨rfl, hI⟩
  refine ⟨_, rfl, ?_⟩
  refine OpsT.pures (r := []) [3] [0, 1, 9] (S' := [(0, .string a0), (1, .string a1), (9, .bool (!y2))]) (by kernel_rfl) ?_
  refine OpsT.done ?_
  refine Qn.then ?_
  by_cases hb3 : (!y2) = true
  · rw [if_pos hb3] at h0
    refine CodT.yes' (b := !y2) (by kernel_rfl) hb3 ?_
    refine CodT.seq ?_
    refine CodT.regionL [0, 1, 2] (by kernel_rfl) ?_
    refine OpsT.pures (r := []) [0, 1, 2] [4, 5] (S' := [(4, .string a0), (5, .bool false)]) (by kernel_rfl) ?_
    refine OpsT.done ?_
    refine Qn.then ?_
    refine CodT.ret ?_
    refine Qn.ret_then ?_
    have e := someS h0
    subst e
    refine Qn.keep [4, 5] (S' := [(4, .string a0), (5, .bool false)]) (by kernel_rfl) ?_
    exact post_ret (v := .tuple #[.string a0, .bool false]) (fun a ha => RunRes.run (vs := [.string a0, .bool false]) (.tmp (t := 4) (by kernel_rfl) (.tmp (t := 5) (by kernel_rfl) .nil)) ha (by kernel_rfl)) ⟨rfl, hI⟩
  · rw [if_neg hb3] at h0
    refine CodT.no' (b := !y2) (by kernel_rfl) (by simpa using hb3) ?_
    refine CodT.skip ?_
    refine Qn.then ?_
    refine CodT.seq ?_
    refine CodT.regionL [0, 1, 2, 3, 4, 5] (by kernel_rfl) ?_
    refine OpsT.pures (r := [3, 4, 5]) [0, 1, 2] [11, 13] (S' := [(11, .string a0), (13, .int .i64 (a1.size : Int))]) (by kernel_rfl) ?_
    obtain ⟨hg4, h0⟩ := guardS h0
    refine OpsT.cons (Does.yi (Yl.sliceStr10 (d := 14) (T := 9) (s := a0) (lo := (a1.size : Int)) (by kernel_rfl) Go.Proofs.Tryd.underlying9 hg4) hI ?_)
    refine OpsT.pures (r := []) [4, 5] [4, 5] (S' := [(4, .string (sx a0 (a1.size : Int) (a0.size : Int))), (5, .bool true)]) (by kernel_rfl) ?_
    refine OpsT.done ?_
    refine Qn.then ?_
    refine CodT.ret ?_
    have e := someS h0
    subst e
    refine Qn.keep [4, 5] (S' := [(4, .string (sx a0 (a1.size : Int) (a0.size : Int))), (5, .bool true)]) (by kernel_rfl) ?_
    exact post_ret (v := .tuple #[.string (sx a0 (a1.size : Int) (a0.size : Int)), .bool true]) (fun a ha => RunRes.run (vs := [.string (sx a0 (a1.size : Int) (a0.size : Int)), .bool true]) (.tmp (t := 4) (by kernel_rfl) (.tmp (t := 5) (by kernel_rfl) .nil)) ha (by kernel_rfl)) ⟨rfl, hI⟩
set_option maxRecDepth 100000 in
set_option maxHeartbeats 4000000 in
/-- strings.CutPrefix -/
theorem c15 (w0 w : World) (Z : Hp) (A : HP) (hI : Inv w0 Z w A) (hT : Tabs Z) (a0 : ByteArray) (a1 : ByteArray) (r : (ByteArray × Bool)) (h0 : strings_CutPrefix a0 a1 = some r) :
    Calls prog 15 #[.string a0, .string a1] w (fun e w' => e = .returned (.tuple #[.string r.1, .bool r.2]) ∧ Inv w0 Z w' A) := by
  have e4 := calls_intro (R := (fun e w' => e = .returned (.tuple #[.string r.1, .bool r.2]) ∧ Inv w0 Z w' A)) (w := w) (args := [.string a0, .string a1]) (fn := Go.Proofs.Tryd.f15) 11 Go.Proofs.Tryd.func15 (by rfl) Go.Proofs.Tryd.ntmps15 (by kernel_rfl)
  refine e4 ?_
  clear e4
  unfold strings_CutPrefix at h0
  refine CodT.seq ?_
  refine CodT.regionL [0, 1] (by kernel_rfl) ?_
  refine OpsT.pures (r := []) [0, 1] [0, 1] (S' := [(0, .string a0), (1, .string a1)]) (by kernel_rfl) ?_
  refine OpsT.done ?_
  refine Qn.then ?_
  refine CodT.seq ?_
  refine CodT.regionL [0, 1, 2, 3, 4, 5, 6] (by kernel_rfl) ?_
  refine OpsT.pures (r := [2, 3, 4, 5, 6]) [0, 1] [6, 7] (S' := [(6, .string a0), (7, .string a1)]) (by kernel_rfl) ?_
  obtain ⟨⟨y2, y3⟩, hc1, h0⟩ := bindS h0
  try dsimp only at h0
  refine OpsT.cons (Does.call (d := some 8) (n := 28) (vs := [.string a0, .string a1]) (by kernel_rfl) en28 (c28 w0 w _ _ hI hT a0 a1 _ hc1) ?_)
  rintro e w ⟨rfl, hI⟩
  refine ⟨_, rfl, ?_⟩
  refine OpsT.pures (r := []) [3, 4, 5, 6] [4, 5] (S' := [(4, .string y2), (5, .bool y3)]) (by kernel_rfl) ?_
  refine OpsT.done ?_
  refine Qn.then ?_
  refine CodT.ret ?_
  have e := someS h0
  subst e
  refine Qn.keep [4, 5] (S' := [(4, .string y2), (5, .bool y3)]) (by kernel_rfl) ?_
  exact post_ret (v := .tuple #[.string y2, .bool y3]) (fun a ha => RunRes.run (vs := [.string y2, .bool y3]) (.tmp (t := 4) (by kernel_rfl) (.tmp (t := 5) (by kernel_rfl) .nil)) ha (by kernel_rfl)) ⟨rfl, hI⟩
set_option maxRecDepth 100000 in
set_option maxHeartbeats 4000000 in
/-- internal/stringslite.HasSuffix -/
theorem c36 (w0 w : World) (Z : Hp) (A : HP) (hI : Inv w0 Z w A) (hT : Tabs Z) (a0 : ByteArray) (a1 : ByteArray) (r : Bool) (h0 : stringslite_HasSuffix a0 a1 = some r) :
    Calls prog 36 #[.string a0, .string a1] w (fun e w' => e = .returned (.bool r) ∧ Inv w0 Z w' A) := by
  have e4 := calls_intro (R := (fun e w' => e = .returned (.bool r) ∧ Inv w0 Z w' A)) (w := w) (args := [.string a0, .string a1]) (fn := Go.Proofs.Tryd.f36) 21 Go.Proofs.Tryd.func36 (by rfl) Go.Proofs.Tryd.ntmps36 (by kernel_rfl)
  refine e4 ?_
  clear e4
  unfold stringslite_HasSuffix at h0
  refine CodT.seq ?_
  refine CodT.regionL [0] (by kernel_rfl) ?_
  refine OpsT.pures (r := []) [0] [0, 1] (S' := [(0, .string a0), (1, .string a1)]) (by kernel_rfl) ?_
  refine OpsT.done ?_
  refine Qn.then ?_
  obtain ⟨r1, h1, h0⟩ := bindS h0
  refine CodT.meet (fun a w => ∃ (x1 : Bool), x1 = r1 ∧ Fr 21 [(4, .bool x1)] a ∧ Inv w0 Z w A) ?_ ?_
  ·
    refine CodT.regionL [0, 1, 2, 3, 4, 5, 6, 7, 8, 9, 10, 11, 12, 13, 14, 15, 16] (by kernel_rfl) ?_
    refine OpsT.pures (r := [6, 7, 8, 9, 10, 11, 12, 13, 14, 15, 16]) [0, 1, 2, 3, 4, 5] [0, 1, 10] (S' := [(0, .string a0), (1, .string a1), (10, .bool (decide ((a0.size : Int) ≥ (a1.size : Int))))]) (by kernel_rfl) ?_
    by_cases hb2 : (decide ((a0.size : Int) ≥ (a1.size : Int))) = true
    · rw [if_pos hb2] at h1
      refine OpsT.keep [0, 1, 10] (S' := [(0, .string a0), (1, .string a1), (10, .bool true)]) (by simp only [hb2]; kernel_rfl) ?_
      refine OpsT.pures (r := [12, 13, 14, 15, 16]) [6, 7, 8, 9, 10, 11] [1, 10, 11, 16] (S' := [(1, .string a1), (10, .bool true), (11, .string a0), (16, .int .i64 (wi64 ((a0.size : Int) - (a1.size : Int))))]) (by kernel_rfl) ?_
      obtain ⟨hg3, h1⟩ := guardS h1
      refine OpsT.cons (Does.yi (Yl.sliceStr10 (d := 17) (T := 9) (s := a0) (lo := wi64 ((a0.size : Int) - (a1.size : Int))) (by kernel_rfl) Go.Proofs.Tryd.underlying9 hg3) hI ?_)
      refine OpsT.pures (r := []) [13, 14, 15, 16] [4] (S' := [(4, .bool (seq (sx a0 (wi64 ((a0.size : Int) - (a1.size : Int))) (a0.size : Int)) a1))]) (by kernel_rfl) ?_
      refine OpsT.done ?_
      have e := someS h1
      subst e
      exact Qn.thenJ fun a ha => ⟨seq (sx a0 (wi64 ((a0.size : Int) - (a1.size : Int))) (a0.size : Int)) a1, rfl, ha.keep [4] (by kernel_rfl), hI⟩
    · rw [if_neg hb2] at h1
      have hb2 : (decide ((a0.size : Int) ≥ (a1.size : Int))) = false := by simpa using hb2
      refine OpsT.keep [0, 1, 10] (S' := [(0, .string a0), (1, .string a1), (10, .bool false)]) (by simp only [hb2]; kernel_rfl) ?_
      refine OpsT.pures (r := []) [6, 7, 8, 9, 10, 11, 12, 13, 14, 15, 16] [4] (S' := [(4, .bool false)]) (by kernel_rfl) ?_
      refine OpsT.done ?_
      have e := someS h1
      subst e
      exact Qn.thenJ fun a ha => ⟨false, rfl, ha.keep [4] (by kernel_rfl), hI⟩
  ·
    rintro a w ⟨x1, rfl, ha, hI⟩
    try dsimp only at h0
    refine CodT.of ?_ ha
    refine CodT.ret ?_
    have e := someS h0
    subst e
    refine Qn.keep [4] (S' := [(4, .bool x1)]) (by kernel_rfl) ?_
    exact post_ret (v := .bool x1) (fun a ha => RunRes.run (vs := [.bool x1]) (.tmp (t := 4) (by kernel_rfl) .nil) ha (by kernel_rfl)) ⟨rfl, hI⟩
set_option maxRecDepth 100000 in
set_option maxHeartbeats 4000000 in
/-- internal/stringslite.CutSuffix -/
theorem c29 (w0 w : World) (Z : Hp) (A : HP) (hI : Inv w0 Z w A) (hT : Tabs Z) (a0 : ByteArray) (a1 : ByteArray) (r : (ByteArray × Bool)) (h0 : stringslite_CutSuffix a0 a1 = some r) :
    Calls prog 29 #[.string a0, .string a1] w (fun e w' => e = .returned (.tuple #[.string r.1, .bool r.2]) ∧ Inv w0 Z w' A) := by
  have e4 := calls_intro (R := (fun e w' => e = .returned (.tuple #[.string r.1, .bool r.2]) ∧ Inv w0 Z w' A)) (w := w) (args := [.string a0, .string a1]) (fn := Go.Proofs.Tryd.f29) 18 Go.Proofs.Tryd.func29 (by rfl) Go.Proofs.Tryd.ntmps29 (by kernel_rfl)
  refine e4 ?_
  clear e4
  unfold stringslite_CutSuffix at h0
  refine CodT.seq ?_
  refine CodT.regionL [0, 1] (by kernel_rfl) ?_
  refine OpsT.pures (r := []) [0, 1] [0, 1] (S' := [(0, .string a0), (1, .string a1)]) (by kernel_rfl) ?_
  refine OpsT.done ?_
  refine Qn.then ?_
  refine CodT.seq ?_
  refine CodT.seq ?_
  refine CodT.regionL [0, 1, 2, 3] (by kernel_rfl) ?_
  refine OpsT.pures (r := [2, 3]) [0, 1] [0, 1, 6, 7] (S' := [(0, .string a0), (1, .string a1), (6, .string a0), (7, .string a1)]) (by kernel_rfl) ?_
  obtain ⟨y2, hc1, h0⟩ := bindS h0
  try dsimp only at h0
  refine OpsT.cons (Does.call (d := some 8) (n := 36) (vs := [.string a0, .string a1]) (by kernel_rfl) en36 (c36 w0 w _ _ hI hT a0 a1 _ hc1) ?_)
  rintro e w ⟨rfl, hI⟩
  refine ⟨_, rfl, ?_⟩
  refine OpsT.pures (r := []) [3] [0, 1, 9] (S' := [(0, .string a0), (1, .string a1), (9, .bool (!y2))]) (by kernel_rfl) ?_
  refine OpsT.done ?_
  refine Qn.then ?_
  by_cases hb3 : (!y2) = true
  · rw [if_pos hb3] at h0
    refine CodT.yes' (b := !y2) (by kernel_rfl) hb3 ?_
    refine CodT.seq ?_
    refine CodT.regionL [0, 1, 2] (by kernel_rfl) ?_
    refine OpsT.pures (r := []) [0, 1, 2] [4, 5] (S' := [(4, .string a0), (5, .bool false)]) (by kernel_rfl) ?_
    refine OpsT.done ?_
    refine Qn.then ?_
    refine CodT.ret ?_
    refine Qn.ret_then ?_
    have e := someS h0
    subst e
    refine Qn.keep [4, 5] (S' := [(4, .string a0), (5, .bool false)]) (by kernel_rfl) ?_
    exact post_ret (v := .tuple #[.string a0, .bool false]) (fun a ha => RunRes.run (vs := [.string a0, .bool false]) (.tmp (t := 4) (by kernel_rfl) (.tmp (t := 5) (by kernel_rfl) .nil)) ha (by kernel_rfl)) ⟨rfl, hI⟩
  · rw [if_neg hb3] at h0
    refine CodT.no' (b := !y2) (by kernel_rfl) (by simpa using hb3) ?_
    refine CodT.skip ?_
    refine Qn.then ?_
    refine CodT.seq ?_
    refine CodT.regionL [0, 1, 2, 3, 4, 5, 6, 7, 8] (by kernel_rfl) ?_
    refine OpsT.pures (r := [6, 7, 8]) [0, 1, 2, 3, 4, 5] [11, 16] (S' := [(11, .string a0), (16, .int .i64 (wi64 ((a0.size : Int) - (a1.size : Int))))]) (by kernel_rfl) ?_
    obtain ⟨hg4, h0⟩ := guardS h0
    refine OpsT.cons (Does.yi (Yl.sliceStr01 (d := 17) (T := 9) (s := a0) (hi := wi64 ((a0.size : Int) - (a1.size : Int))) (by kernel_rfl) Go.Proofs.Tryd.underlying9 hg4) hI ?_)
    refine OpsT.pures (r := []) [7, 8] [4, 5] (S' := [(4, .string (sx a0 0 (wi64 ((a0.size : Int) - (a1.size : Int))))), (5, .bool true)]) (by kernel_rfl) ?_
    refine OpsT.done ?_
    refine Qn.then ?_
    refine CodT.ret ?_
    have e := someS h0
    subst e
    refine Qn.keep [4, 5] (S' := [(4, .string (sx a0 0 (wi64 ((a0.size : Int) - (a1.size : Int))))), (5, .bool true)]) (by kernel_rfl) ?_
    exact post_ret (v := .tuple #[.string (sx a0 0 (wi64 ((a0.size : Int) - (a1.size : Int)))), .bool true]) (fun a ha => RunRes.run (vs := [.string (sx a0 0 (wi64 ((a0.size : Int) - (a1.size : Int)))), .bool true]) (.tmp (t := 4) (by kernel_rfl) (.tmp (t := 5) (by kernel_rfl) .nil)) ha (by kernel_rfl)) ⟨rfl, hI⟩
set_option maxRecDepth 100000 in
set_option maxHeartbeats 4000000 in
/-- strings.CutSuffix -/
theorem c16 (w0 w : World) (Z : Hp) (A : HP) (hI : Inv w0 Z w A) (hT : Tabs Z) (a0 : ByteArray) (a1 : ByteArray) (r : (ByteArray × Bool)) (h0 : strings_CutSuffix a0 a1 = some r) :
    Calls prog 16 #[.string a0, .string a1] w (fun e w' => e = .returned (.tuple #[.string r.1, .bool r.2]) ∧ Inv w0 Z w' A) := by
  have e4 := calls_intro (R := (fun e w' => e = .returned (.tuple #[.string r.1, .bool r.2]) ∧ Inv w0 Z w' A)) (w := w) (args := [.string a0, .string a1]) (fn := Go.Proofs.Tryd.f16) 11 Go.Proofs.Tryd.func16 (by rfl) Go.Proofs.Tryd.ntmps16 (by kernel_rfl)
  refine e4 ?_
  clear e4
  unfold strings_CutSuffix at h0
  refine CodT.seq ?_
  refine CodT.regionL [0, 1] (by kernel_rfl) ?_
  refine OpsT.pures (r := []) [0, 1] [0, 1] (S' := [(0, .string a0), (1, .string a1)]) (by kernel_rfl) ?_
  refine OpsT.done ?_
  refine Qn.then ?_
  refine CodT.seq ?_
  refine CodT.regionL [0, 1, 2, 3, 4, 5, 6] (by kernel_rfl) ?_
  refine OpsT.pures (r := [2, 3, 4, 5, 6]) [0, 1] [6, 7] (S' := [(6, .string a0), (7, .string a1)]) (by kernel_rfl) ?_
  obtain ⟨⟨y2, y3⟩, hc1, h0⟩ := bindS h0
  try dsimp only at h0
  refine OpsT.cons (Does.call (d := some 8) (n := 29) (vs := [.string a0, .string a1]) (by kernel_rfl) en29 (c29 w0 w _ _ hI hT a0 a1 _ hc1) ?_)
  rintro e w ⟨rfl, hI⟩
  refine ⟨_, rfl, ?_⟩
  refine OpsT.pures (r := []) [3, 4, 5, 6] [4, 5] (S' := [(4, .string y2), (5, .bool y3)]) (by kernel_rfl) ?_
  refine OpsT.done ?_
  refine Qn.then ?_
  refine CodT.ret ?_
  have e := someS h0
  subst e
  refine Qn.keep [4, 5] (S' := [(4, .string y2), (5, .bool y3)]) (by kernel_rfl) ?_
  exact post_ret (v := .tuple #[.string y2, .bool y3]) (fun a ha => RunRes.run (vs := [.string y2, .bool y3]) (.tmp (t := 4) (by kernel_rfl) (.tmp (t := 5) (by kernel_rfl) .nil)) ha (by kernel_rfl)) ⟨rfl, hI⟩
set_option maxRecDepth 100000 in
set_option maxHeartbeats 4000000 in
/-- internal/stringslite.IndexByte -/
theorem c37 (w0 w : World) (Z : Hp) (A : HP) (hI : Inv w0 Z w A) (hT : Tabs Z) (a0 : ByteArray) (a1 : Int) (r : Int) (h0 : stringslite_IndexByte a0 a1 = some r) :
    Calls prog 37 #[.string a0, .int .u8 a1] w (fun e w' => e = .returned (.int .i64 r) ∧ Inv w0 Z w' A) := by
  have e4 := calls_intro (R := (fun e w' => e = .returned (.int .i64 r) ∧ Inv w0 Z w' A)) (w := w) (args := [.string a0, .int .u8 a1]) (fn := Go.Proofs.Tryd.f37) 8 Go.Proofs.Tryd.func37 (by rfl) Go.Proofs.Tryd.ntmps37 (by kernel_rfl)
  refine e4 ?_
  clear e4
  unfold stringslite_IndexByte at h0
  refine CodT.seq ?_
  refine CodT.regionL [0] (by kernel_rfl) ?_
  refine OpsT.pures (r := []) [0] [0, 1] (S' := [(0, .string a0), (1, .int .u8 a1)]) (by kernel_rfl) ?_
  refine OpsT.done ?_
  refine Qn.then ?_
  refine CodT.seq ?_
  refine CodT.regionL [0, 1, 2, 3] (by kernel_rfl) ?_
  refine OpsT.pures (r := [2, 3]) [0, 1] [5, 6] (S' := [(5, .string a0), (6, .int .u8 a1)]) (by kernel_rfl) ?_
  refine OpsT.cons (Does.ext (d := some 7) (n := 41) (vs := [.string a0, .int .u8 a1]) (by kernel_rfl) (ext41 _ _ _) ?_)
  refine OpsT.pures (r := []) [3] [4] (S' := [(4, .int .i64 (idxByte a0 a1))]) (by kernel_rfl) ?_
  refine OpsT.done ?_
  refine Qn.then ?_
  refine CodT.ret ?_
  have e := someS h0
  subst e
  refine Qn.keep [4] (S' := [(4, .int .i64 (idxByte a0 a1))]) (by kernel_rfl) ?_
  exact post_ret (v := .int .i64 (idxByte a0 a1)) (fun a ha => RunRes.run (vs := [.int .i64 (idxByte a0 a1)]) (.tmp (t := 4) (by kernel_rfl) .nil) ha (by kernel_rfl)) ⟨rfl, hI⟩
set_option maxRecDepth 100000 in
set_option maxHeartbeats 4000000 in
/-- strings.IndexByte -/
theorem c30 (w0 w : World) (Z : Hp) (A : HP) (hI : Inv w0 Z w A) (hT : Tabs Z) (a0 : ByteArray) (a1 : Int) (r : Int) (h0 : strings_IndexByte a0 a1 = some r) :
    Calls prog 30 #[.string a0, .int .u8 a1] w (fun e w' => e = .returned (.int .i64 r) ∧ Inv w0 Z w' A) := by
  have e4 := calls_intro (R := (fun e w' => e = .returned (.int .i64 r) ∧ Inv w0 Z w' A)) (w := w) (args := [.string a0, .int .u8 a1]) (fn := Go.Proofs.Tryd.f30) 8 Go.Proofs.Tryd.func30 (by rfl) Go.Proofs.Tryd.ntmps30 (by kernel_rfl)
  refine e4 ?_
  clear e4
  unfold strings_IndexByte at h0
  refine CodT.seq ?_
  refine CodT.regionL [0] (by kernel_rfl) ?_
  refine OpsT.pures (r := []) [0] [0, 1] (S' := [(0, .string a0), (1, .int .u8 a1)]) (by kernel_rfl) ?_
  refine OpsT.done ?_
  refine Qn.then ?_
  refine CodT.seq ?_
  refine CodT.regionL [0, 1, 2, 3] (by kernel_rfl) ?_
  refine OpsT.pures (r := [2, 3]) [0, 1] [5, 6] (S' := [(5, .string a0), (6, .int .u8 a1)]) (by kernel_rfl) ?_
  obtain ⟨y2, hc1, h0⟩ := bindS h0
  try dsimp only at h0
  refine OpsT.cons (Does.call (d := some 7) (n := 37) (vs := [.string a0, .int .u8 a1]) (by kernel_rfl) en37 (c37 w0 w _ _ hI hT a0 a1 _ hc1) ?_)
  rintro e w ⟨rfl, hI⟩
  refine ⟨_, rfl, ?_⟩
  refine OpsT.pures (r := []) [3] [4] (S' := [(4, .int .i64 y2)]) (by kernel_rfl) ?_
  refine OpsT.done ?_
  refine Qn.then ?_
  refine CodT.ret ?_
  have e := someS h0
  subst e
  refine Qn.keep [4] (S' := [(4, .int .i64 y2)]) (by kernel_rfl) ?_
  exact post_ret (v := .int .i64 y2) (fun a ha => RunRes.run (vs := [.int .i64 y2]) (.tmp (t := 4) (by kernel_rfl) .nil) ha (by kernel_rfl)) ⟨rfl, hI⟩
set_option maxRecDepth 100000 in
set_option maxHeartbeats 4000000 in
/-- cenotaph/name.escaped -/
theorem c17 (w0 w : World) (Z : Hp) (A : HP) (hI : Inv w0 Z w A) (hT : Tabs Z) (a0 : ByteArray) (r : (Int × Int)) (h0 : name_escaped a0 = some r) :
    Calls prog 17 #[.string a0] w (fun e w' => e = .returned (.tuple #[.int .u8 r.1, .int .i64 r.2]) ∧ Inv w0 Z w' A) := by
  have e4 := calls_intro (R := (fun e w' => e = .returned (.tuple #[.int .u8 r.1, .int .i64 r.2]) ∧ Inv w0 Z w' A)) (w := w) (args := [.string a0]) (fn := Go.Proofs.Tryd.f17) 36 Go.Proofs.Tryd.func17 (by rfl) Go.Proofs.Tryd.ntmps17 (by kernel_rfl)
  refine e4 ?_
  clear e4
  unfold name_escaped at h0
  refine CodT.seq ?_
  refine CodT.regionL [0, 1] (by kernel_rfl) ?_
  refine OpsT.pures (r := []) [0, 1] [0] (S' := [(0, .string a0)]) (by kernel_rfl) ?_
  refine OpsT.done ?_
  refine Qn.then ?_
  refine CodT.seq ?_
  refine CodT.seq ?_
  refine CodT.regionL [0, 1] (by kernel_rfl) ?_
  refine OpsT.pures (r := []) [0, 1] [0, 7] (S' := [(0, .string a0), (7, .bool (seq a0 (⟨#[]⟩ : ByteArray)))]) (by kernel_rfl) ?_
  refine OpsT.done ?_
  refine Qn.then ?_
  by_cases hb1 : (seq a0 (⟨#[]⟩ : ByteArray)) = true
  · rw [if_pos hb1] at h0
    refine CodT.yes' (b := seq a0 (⟨#[]⟩ : ByteArray)) (by kernel_rfl) hb1 ?_
    refine CodT.seq ?_
    refine CodT.regionL [0, 1] (by kernel_rfl) ?_
    refine OpsT.pures (r := []) [0, 1] [2, 3] (S' := [(2, .int .u8 0), (3, .int .i64 0)]) (by kernel_rfl) ?_
    refine OpsT.done ?_
    refine Qn.then ?_
    refine CodT.ret ?_
    refine Qn.ret_then ?_
    have e := someS h0
    subst e
    refine Qn.keep [2, 3] (S' := [(2, .int .u8 0), (3, .int .i64 0)]) (by kernel_rfl) ?_
    exact post_ret (v := .tuple #[.int .u8 0, .int .i64 0]) (fun a ha => RunRes.run (vs := [.int .u8 0, .int .i64 0]) (.tmp (t := 2) (by kernel_rfl) (.tmp (t := 3) (by kernel_rfl) .nil)) ha (by kernel_rfl)) ⟨rfl, hI⟩
  · rw [if_neg hb1] at h0
    refine CodT.no' (b := seq a0 (⟨#[]⟩ : ByteArray)) (by kernel_rfl) (by simpa using hb1) ?_
    refine CodT.skip ?_
    refine Qn.then ?_
    refine CodT.seq ?_
    refine CodT.seq ?_
    refine CodT.regionL [0, 1] (by kernel_rfl) ?_
    refine OpsT.pures (r := [1]) [0] [0, 8] (S' := [(0, .string a0), (8, .string a0)]) (by kernel_rfl) ?_
    obtain ⟨hg2, h0⟩ := guardS h0
    refine OpsT.cons (Does.yi (Yl.indexStr (d := 9) (T := 9) (k := .i64) (j := 0) (s := a0) (by kernel_rfl) Go.Proofs.Tryd.underlying9 hg2.1 hg2.2) hI ?_)
    refine OpsT.done ?_
    refine Qn.then ?_
    refine CodT.block ?_
    refine CodT.seq ?_
    refine CodT.regionL [0, 1] (by kernel_rfl) ?_
    refine OpsT.pures (r := []) [0, 1] [0, 9, 10] (S' := [(0, .string a0), (9, .int .u8 (bt a0 0)), (10, .bool ((bt a0 0) == 110))]) (by kernel_rfl) ?_
    refine OpsT.done ?_
    refine Qn.then ?_
    by_cases hb3 : ((bt a0 0) == 110) = true
    · rw [if_pos hb3] at h0
      refine CodT.yes' (b := (bt a0 0) == 110) (by kernel_rfl) hb3 ?_
      refine CodT.seq ?_
      refine CodT.regionL [0, 1] (by kernel_rfl) ?_
      refine OpsT.pures (r := []) [0, 1] [2, 3] (S' := [(2, .int .u8 10), (3, .int .i64 1)]) (by kernel_rfl) ?_
      refine OpsT.done ?_
      refine Qn.then ?_
      refine CodT.ret ?_
      refine Qn.block_ret ?_
      refine Qn.ret_then ?_
      have e := someS h0
      subst e
      refine Qn.keep [2, 3] (S' := [(2, .int .u8 10), (3, .int .i64 1)]) (by kernel_rfl) ?_
      exact post_ret (v := .tuple #[.int .u8 10, .int .i64 1]) (fun a ha => RunRes.run (vs := [.int .u8 10, .int .i64 1]) (.tmp (t := 2) (by kernel_rfl) (.tmp (t := 3) (by kernel_rfl) .nil)) ha (by kernel_rfl)) ⟨rfl, hI⟩
    · rw [if_neg hb3] at h0
      refine CodT.no' (b := (bt a0 0) == 110) (by kernel_rfl) (by simpa using hb3) ?_
      refine CodT.seq ?_
      refine CodT.regionL [0, 1] (by kernel_rfl) ?_
      refine OpsT.pures (r := []) [0, 1] [0, 12] (S' := [(0, .string a0), (12, .bool ((bt a0 0) == 120))]) (by kernel_rfl) ?_
      refine OpsT.done ?_
      refine Qn.then ?_
      by_cases hb4 : ((bt a0 0) == 120) = true
      · rw [if_pos hb4] at h0
        refine CodT.yes' (b := (bt a0 0) == 120) (by kernel_rfl) hb4 ?_
        refine CodT.seq ?_
        refine CodT.seq ?_
        refine CodT.regionL [0, 1, 2] (by kernel_rfl) ?_
        refine OpsT.pures (r := []) [0, 1, 2] [0, 16] (S' := [(0, .string a0), (16, .bool (decide ((a0.size : Int) < 3)))]) (by kernel_rfl) ?_
        refine OpsT.done ?_
        refine Qn.then ?_
        by_cases hb5 : (decide ((a0.size : Int) < 3)) = true
        · rw [if_pos hb5] at h0
          refine CodT.yes' (b := decide ((a0.size : Int) < 3)) (by kernel_rfl) hb5 ?_
          refine CodT.seq ?_
          refine CodT.regionL [0, 1] (by kernel_rfl) ?_
          refine OpsT.pures (r := []) [0, 1] [2, 3] (S' := [(2, .int .u8 0), (3, .int .i64 0)]) (by kernel_rfl) ?_
          refine OpsT.done ?_
          refine Qn.then ?_
          refine CodT.ret ?_
          refine Qn.ret_then ?_
          refine Qn.block_ret ?_
          refine Qn.ret_then ?_
          have e := someS h0
          subst e
          refine Qn.keep [2, 3] (S' := [(2, .int .u8 0), (3, .int .i64 0)]) (by kernel_rfl) ?_
          exact post_ret (v := .tuple #[.int .u8 0, .int .i64 0]) (fun a ha => RunRes.run (vs := [.int .u8 0, .int .i64 0]) (.tmp (t := 2) (by kernel_rfl) (.tmp (t := 3) (by kernel_rfl) .nil)) ha (by kernel_rfl)) ⟨rfl, hI⟩
        · rw [if_neg hb5] at h0
          refine CodT.no' (b := decide ((a0.size : Int) < 3)) (by kernel_rfl) (by simpa using hb5) ?_
          refine CodT.skip ?_
          refine Qn.then ?_
          refine CodT.seq ?_
          refine CodT.drawI (n := 8) [] (by kernel_rfl) (by kernel_rfl) hI ?_
          intro w hI
          refine GmT.p' 0 17 (.string a0) (by kernel_rfl) (by kernel_rfl) ?_
          refine GmT.p' 3 20 (.string a0) (by kernel_rfl) (by kernel_rfl) ?_
          obtain ⟨hg6, h0⟩ := guardS h0
          refine GmT.r (i := 1) 2 (by kernel_rfl) (by kernel_rfl) (Yl.indexStr (d := 18) (T := 9) (k := .i64) (j := 1) (s := a0) (by kernel_rfl) Go.Proofs.Tryd.underlying9 hg6.1 hg6.2) hI ?_
          obtain ⟨hg7, h0⟩ := guardS h0
          refine GmT.r (i := 4) 2 (by kernel_rfl) (by kernel_rfl) (Yl.indexStr (d := 21) (T := 9) (k := .i64) (j := 2) (s := a0) (by kernel_rfl) Go.Proofs.Tryd.underlying9 hg7.1 hg7.2) hI ?_
          obtain ⟨y9, hc8, h0⟩ := bindS h0
          try dsimp only at h0
          refine GmT.o (i := 2) (by kernel_rfl) (Does.call (d := some 19) (n := 30) (vs := [.string (⟨#[48, 49, 50, 51, 52, 53, 54, 55, 56, 57, 97, 98, 99, 100, 101, 102]⟩ : ByteArray), .int .u8 (bt a0 1)]) (by kernel_rfl) en30 (c30 w0 w _ _ hI hT (⟨#[48, 49, 50, 51, 52, 53, 54, 55, 56, 57, 97, 98, 99, 100, 101, 102]⟩ : ByteArray) (bt a0 1) _ hc8) ?_)
          rintro e w ⟨rfl, hI⟩
          refine ⟨_, rfl, ?_⟩
          refine ⟨fun _ _ => hI, ?_⟩
          obtain ⟨y11, hc10, h0⟩ := bindS h0
          try dsimp only at h0
          refine GmT.o (i := 5) (by kernel_rfl) (Does.call (d := some 22) (n := 30) (vs := [.string (⟨#[48, 49, 50, 51, 52, 53, 54, 55, 56, 57, 97, 98, 99, 100, 101, 102]⟩ : ByteArray), .int .u8 (bt a0 2)]) (by kernel_rfl) en30 (c30 w0 w _ _ hI hT (⟨#[48, 49, 50, 51, 52, 53, 54, 55, 56, 57, 97, 98, 99, 100, 101, 102]⟩ : ByteArray) (bt a0 2) _ hc10) ?_)
          rintro e w ⟨rfl, hI⟩
          refine ⟨_, rfl, ?_⟩
          refine ⟨fun _ _ => hI, ?_⟩
          refine GmT.p' 6 4 (.int .i64 y9) (by kernel_rfl) (by kernel_rfl) ?_
          refine GmT.p' 7 5 (.int .i64 y11) (by kernel_rfl) (by kernel_rfl) ?_
          refine GmT.done (by kernel_rfl) ?_
          refine Qn.then ?_
          refine CodT.seq ?_
          obtain ⟨r1, h1, h0⟩ := bindS h0
          refine CodT.meet (fun a w => ∃ (x12 : Bool), x12 = r1 ∧ Fr 36 [(4, .int .i64 y9), (5, .int .i64 y11), (28, .bool x12)] a ∧ Inv w0 Z w A) ?_ ?_
          ·
            refine CodT.regionL [0, 1, 2, 3, 4, 5] (by kernel_rfl) ?_
            refine OpsT.pures (r := [3, 4, 5]) [0, 1, 2] [4, 5, 25] (S' := [(4, .int .i64 y9), (5, .int .i64 y11), (25, .bool (decide (y9 < 0)))]) (by kernel_rfl) ?_
            by_cases hb13 : (decide (y9 < 0)) = true
            · rw [if_pos hb13] at h1
              refine OpsT.keep [4, 5, 25] (S' := [(4, .int .i64 y9), (5, .int .i64 y11), (25, .bool true)]) (by simp only [hb13]; kernel_rfl) ?_
              refine OpsT.pures (r := []) [3, 4, 5] [4, 5, 28] (S' := [(4, .int .i64 y9), (5, .int .i64 y11), (28, .bool true)]) (by kernel_rfl) ?_
              refine OpsT.done ?_
              have e := someS h1
              subst e
              exact Qn.thenJ fun a ha => ⟨true, rfl, ha.keep [4, 5, 28] (by kernel_rfl), hI⟩
            · rw [if_neg hb13] at h1
              have hb13 : (decide (y9 < 0)) = false := by simpa using hb13
              refine OpsT.keep [4, 5, 25] (S' := [(4, .int .i64 y9), (5, .int .i64 y11), (25, .bool false)]) (by simp only [hb13]; kernel_rfl) ?_
              refine OpsT.pures (r := []) [3, 4, 5] [4, 5, 28] (S' := [(4, .int .i64 y9), (5, .int .i64 y11), (28, .bool (decide (y11 < 0)))]) (by kernel_rfl) ?_
              refine OpsT.done ?_
              have e := someS h1
              subst e
              exact Qn.thenJ fun a ha => ⟨decide (y11 < 0), rfl, ha.keep [4, 5, 28] (by kernel_rfl), hI⟩
          ·
            rintro a w ⟨x12, rfl, ha, hI⟩
            try dsimp only at h0
            refine CodT.of ?_ ha
            by_cases hb14 : x12 = true
            · rw [if_pos hb14] at h0
              refine CodT.yes' (b := x12) (by kernel_rfl) hb14 ?_
              refine CodT.seq ?_
              refine CodT.regionL [0, 1] (by kernel_rfl) ?_
              refine OpsT.pures (r := []) [0, 1] [2, 3] (S' := [(2, .int .u8 0), (3, .int .i64 0)]) (by kernel_rfl) ?_
              refine OpsT.done ?_
              refine Qn.then ?_
              refine CodT.ret ?_
              refine Qn.ret_then ?_
              refine Qn.block_ret ?_
              refine Qn.ret_then ?_
              have e := someS h0
              subst e
              refine Qn.keep [2, 3] (S' := [(2, .int .u8 0), (3, .int .i64 0)]) (by kernel_rfl) ?_
              exact post_ret (v := .tuple #[.int .u8 0, .int .i64 0]) (fun a ha => RunRes.run (vs := [.int .u8 0, .int .i64 0]) (.tmp (t := 2) (by kernel_rfl) (.tmp (t := 3) (by kernel_rfl) .nil)) ha (by kernel_rfl)) ⟨rfl, hI⟩
            · rw [if_neg hb14] at h0
              refine CodT.no' (b := x12) (by kernel_rfl) (by simpa using hb14) ?_
              refine CodT.skip ?_
              refine Qn.then ?_
              refine CodT.seq ?_
              refine CodT.regionL [0, 1, 2, 3, 4, 5, 6] (by kernel_rfl) ?_
              refine OpsT.pures (r := []) [0, 1, 2, 3, 4, 5, 6] [2, 3] (S' := [(2, .int .u8 (wu8 (bOr .i64 (bShl .i64 y9 4) y11))), (3, .int .i64 3)]) (by kernel_rfl) ?_
              refine OpsT.done ?_
              refine Qn.then ?_
              refine CodT.ret ?_
              refine Qn.block_ret ?_
              refine Qn.ret_then ?_
              have e := someS h0
              subst e
              refine Qn.keep [2, 3] (S' := [(2, .int .u8 (wu8 (bOr .i64 (bShl .i64 y9 4) y11))), (3, .int .i64 3)]) (by kernel_rfl) ?_
              exact post_ret (v := .tuple #[.int .u8 (wu8 (bOr .i64 (bShl .i64 y9 4) y11)), .int .i64 3]) (fun a ha => RunRes.run (vs := [.int .u8 (wu8 (bOr .i64 (bShl .i64 y9 4) y11)), .int .i64 3]) (.tmp (t := 2) (by kernel_rfl) (.tmp (t := 3) (by kernel_rfl) .nil)) ha (by kernel_rfl)) ⟨rfl, hI⟩
      · rw [if_neg hb4] at h0
        refine CodT.no' (b := (bt a0 0) == 120) (by kernel_rfl) (by simpa using hb4) ?_
        refine CodT.skip ?_
        refine Qn.block_normal ?_
        refine Qn.then ?_
        refine CodT.seq ?_
        refine CodT.regionL [0, 1, 2, 3] (by kernel_rfl) ?_
        refine OpsT.pures (r := [1, 2, 3]) [0] [34] (S' := [(34, .string a0)]) (by kernel_rfl) ?_
        obtain ⟨hg15, h0⟩ := guardS h0
        refine OpsT.cons (Does.yi (Yl.indexStr (d := 35) (T := 9) (k := .i64) (j := 0) (s := a0) (by kernel_rfl) Go.Proofs.Tryd.underlying9 hg15.1 hg15.2) hI ?_)
        refine OpsT.pures (r := []) [2, 3] [2, 3] (S' := [(2, .int .u8 (bt a0 0)), (3, .int .i64 1)]) (by kernel_rfl) ?_
        refine OpsT.done ?_
        refine Qn.then ?_
        refine CodT.ret ?_
        have e := someS h0
        subst e
        refine Qn.keep [2, 3] (S' := [(2, .int .u8 (bt a0 0)), (3, .int .i64 1)]) (by kernel_rfl) ?_
        exact post_ret (v := .tuple #[.int .u8 (bt a0 0), .int .i64 1]) (fun a ha => RunRes.run (vs := [.int .u8 (bt a0 0), .int .i64 1]) (.tmp (t := 2) (by kernel_rfl) (.tmp (t := 3) (by kernel_rfl) .nil)) ha (by kernel_rfl)) ⟨rfl, hI⟩
set_option maxRecDepth 100000 in
set_option maxHeartbeats 4000000 in
/-- cenotaph/name.Unquote -/
theorem c5 (w0 w : World) (Z : Hp) (A : HP) (hI : Inv w0 Z w A) (hT : Tabs Z) (a0 : ByteArray) (r : (ByteArray × Bool)) (h0 : name_Unquote a0 = some r) :
    Calls prog 5 #[.string a0] w (fun e w' => e = .returned (.tuple #[.string r.1, .bool r.2]) ∧ Inv w0 Z w' A) := by
  have e4 := calls_intro (R := (fun e w' => e = .returned (.tuple #[.string r.1, .bool r.2]) ∧ Inv w0 Z w' A)) (w := w) (args := [.string a0]) (fn := Go.Proofs.Tryd.f5) 56 Go.Proofs.Tryd.func5 (by rfl) Go.Proofs.Tryd.ntmps5 (by kernel_rfl)
  refine e4 ?_
  clear e4
  unfold name_Unquote at h0
  refine CodT.seq ?_
  refine CodT.regionL [0, 1] (by kernel_rfl) ?_
  refine OpsT.pures (r := []) [0, 1] [0] (S' := [(0, .string a0)]) (by kernel_rfl) ?_
  refine OpsT.done ?_
  refine Qn.then ?_
  refine CodT.seq ?_
  refine CodT.regionL [0, 1, 2, 3, 4, 5, 6] (by kernel_rfl) ?_
  refine OpsT.pures (r := [1, 2, 3, 4, 5, 6]) [0] [0, 11] (S' := [(0, .string a0), (11, .string a0)]) (by kernel_rfl) ?_
  obtain ⟨⟨y2, y3⟩, hc1, h0⟩ := bindS h0
  try dsimp only at h0
  refine OpsT.cons (Does.call (d := some 12) (n := 15) (vs := [.string a0, .string (⟨#[34]⟩ : ByteArray)]) (by kernel_rfl) en15 (c15 w0 w _ _ hI hT a0 (⟨#[34]⟩ : ByteArray) _ hc1) ?_)
  rintro e w ⟨rfl, hI⟩
  refine ⟨_, rfl, ?_⟩
  refine OpsT.pures (r := []) [2, 3, 4, 5, 6] [0, 4, 5] (S' := [(0, .string a0), (4, .string y2), (5, .bool y3)]) (by kernel_rfl) ?_
  refine OpsT.done ?_
  refine Qn.then ?_
  refine CodT.seq ?_
  refine CodT.regionL [0, 1, 2, 3, 4, 5, 6] (by kernel_rfl) ?_
  refine OpsT.pures (r := [1, 2, 3, 4, 5, 6]) [0] [0, 5, 16] (S' := [(0, .string a0), (5, .bool y3), (16, .string y2)]) (by kernel_rfl) ?_
  obtain ⟨⟨y5, y6⟩, hc4, h0⟩ := bindS h0
  try dsimp only at h0
  refine OpsT.cons (Does.call (d := some 17) (n := 16) (vs := [.string y2, .string (⟨#[34]⟩ : ByteArray)]) (by kernel_rfl) en16 (c16 w0 w _ _ hI hT y2 (⟨#[34]⟩ : ByteArray) _ hc4) ?_)
  rintro e w ⟨rfl, hI⟩
  refine ⟨_, rfl, ?_⟩
  refine OpsT.pures (r := []) [2, 3, 4, 5, 6] [0, 4, 5, 6] (S' := [(0, .string a0), (4, .string y5), (5, .bool y3), (6, .bool y6)]) (by kernel_rfl) ?_
  refine OpsT.done ?_
  refine Qn.then ?_
  refine CodT.seq ?_
  obtain ⟨r1, h1, h0⟩ := bindS h0
  refine CodT.meet (fun a w => ∃ (x7 : Bool), x7 = r1 ∧ Fr 56 [(0, .string a0), (4, .string y5), (25, .bool x7)] a ∧ Inv w0 Z w A) ?_ ?_
  ·
    refine CodT.regionL [0, 1, 2, 3, 4, 5] (by kernel_rfl) ?_
    refine OpsT.pures (r := [3, 4, 5]) [0, 1, 2] [0, 4, 6, 22] (S' := [(0, .string a0), (4, .string y5), (6, .bool y6), (22, .bool (!y3))]) (by kernel_rfl) ?_
    by_cases hb8 : (!y3) = true
    · rw [if_pos hb8] at h1
      refine OpsT.keep [0, 4, 6, 22] (S' := [(0, .string a0), (4, .string y5), (6, .bool y6), (22, .bool true)]) (by simp only [hb8]; kernel_rfl) ?_
      refine OpsT.pures (r := []) [3, 4, 5] [0, 4, 25] (S' := [(0, .string a0), (4, .string y5), (25, .bool true)]) (by kernel_rfl) ?_
      refine OpsT.done ?_
      have e := someS h1
      subst e
      exact Qn.thenJ fun a ha => ⟨true, rfl, ha.keep [0, 4, 25] (by kernel_rfl), hI⟩
    · rw [if_neg hb8] at h1
      have hb8 : (!y3) = false := by simpa using hb8
      refine OpsT.keep [0, 4, 6, 22] (S' := [(0, .string a0), (4, .string y5), (6, .bool y6), (22, .bool false)]) (by simp only [hb8]; kernel_rfl) ?_
      refine OpsT.pures (r := []) [3, 4, 5] [0, 4, 25] (S' := [(0, .string a0), (4, .string y5), (25, .bool (!y6))]) (by kernel_rfl) ?_
      refine OpsT.done ?_
      have e := someS h1
      subst e
      exact Qn.thenJ fun a ha => ⟨!y6, rfl, ha.keep [0, 4, 25] (by kernel_rfl), hI⟩
  ·
    rintro a w ⟨x7, rfl, ha, hI⟩
    try dsimp only at h0
    refine CodT.of ?_ ha
    by_cases hb9 : x7 = true
    · rw [if_pos hb9] at h0
      refine CodT.yes' (b := x7) (by kernel_rfl) hb9 ?_
      refine CodT.seq ?_
      refine CodT.regionL [0, 1] (by kernel_rfl) ?_
      refine OpsT.pures (r := []) [0, 1] [2, 3] (S' := [(2, .string (⟨#[]⟩ : ByteArray)), (3, .bool false)]) (by kernel_rfl) ?_
      refine OpsT.done ?_
      refine Qn.then ?_
      refine CodT.ret ?_
      refine Qn.ret_then ?_
      have e := someS h0
      subst e
      refine Qn.keep [2, 3] (S' := [(2, .string (⟨#[]⟩ : ByteArray)), (3, .bool false)]) (by kernel_rfl) ?_
      exact post_ret (v := .tuple #[.string (⟨#[]⟩ : ByteArray), .bool false]) (fun a ha => RunRes.run (vs := [.string (⟨#[]⟩ : ByteArray), .bool false]) (.tmp (t := 2) (by kernel_rfl) (.tmp (t := 3) (by kernel_rfl) .nil)) ha (by kernel_rfl)) ⟨rfl, hI⟩
    · rw [if_neg hb9] at h0
      refine CodT.no' (b := x7) (by kernel_rfl) (by simpa using hb9) ?_
      refine CodT.skip ?_
      refine Qn.then ?_
      refine CodT.seq ?_
      refine CodT.regionL [0] (by kernel_rfl) ?_
      refine OpsT.pures (r := []) [0] [0, 4, 7] (S' := [(0, .string a0), (4, .string y5), (7, .slice none 0 0)]) (by kernel_rfl) ?_
      refine OpsT.done ?_
      refine Qn.then ?_
      refine CodT.seq ?_
      obtain ⟨r1, h1, h0⟩ := bindS h0
      refine CodT.meet1 (fun a w => ∃ (x10 : (List Int)) (A11 : Option Addr) (cp12 : Nat), .inr x10 = r1 ∧ Fr 56 [(0, .string a0), (7, .slice A11 x10.length cp12)] a ∧ Inv w0 Z w (star (ownS 5 (cI .u8) 1 A11 cp12 x10) A)) ?_ ?_
      ·
        refine CodT.block ?_
        have hI := ownS_nil (α := Int) hI 5 (cI .u8) 1
        refine (fun a ha => wp_loopN (fun k a w => ∃ (x13 : ByteArray) (x14 : (List Int)) (A15 : Option Addr) (cp16 : Nat), name_Unquote.l0 k x13 x14 = some r1 ∧ Fr 56 [(0, .string a0), (4, .string x13), (7, .slice A15 x14.length cp16)] a ∧ Inv w0 Z w (star (ownS 5 (cI .u8) 1 A15 cp16 x14) A)) ?_ FU a w ⟨y5, ([] : List Int), none, 0, h1, ha.keep [0, 4, 7] (by kernel_rfl), hI⟩)
        clear h1 hI
        rintro k a w ⟨x13, x14, A15, cp16, h1, ha, hI⟩
        rcases k with _ | k
        · cases h1
        simp only [name_Unquote.l0] at h1
        refine CodT.of ?_ ha
        refine CodT.seq ?_
        refine CodT.seq ?_
        refine CodT.regionL [0, 1, 2] (by kernel_rfl) ?_
        refine OpsT.pures (r := []) [0, 1, 2] [0, 4, 7, 28] (S' := [(0, .string a0), (4, .string x13), (7, .slice A15 x14.length cp16), (28, .bool (decide ((x13.size : Int) > 0)))]) (by kernel_rfl) ?_
        refine OpsT.done ?_
        refine Qn.then ?_
        by_cases hb17 : (decide ((x13.size : Int) > 0)) = true
        · rw [if_pos hb17] at h1
          refine CodT.yes' (b := decide ((x13.size : Int) > 0)) (by kernel_rfl) hb17 ?_
          refine CodT.skip ?_
          refine Qn.then ?_
          refine CodT.block ?_
          refine CodT.seq ?_
          refine CodT.regionL [0, 1, 2, 3] (by kernel_rfl) ?_
          refine OpsT.pures (r := [1, 2, 3]) [0] [0, 4, 7, 29] (S' := [(0, .string a0), (4, .string x13), (7, .slice A15 x14.length cp16), (29, .string x13)]) (by kernel_rfl) ?_
          obtain ⟨hg18, h1⟩ := guardS h1
          refine OpsT.cons (Does.yi (Yl.indexStr (d := 30) (T := 9) (k := .i64) (j := 0) (s := x13) (by kernel_rfl) Go.Proofs.Tryd.underlying9 hg18.1 hg18.2) hI ?_)
          refine OpsT.pures (r := []) [2, 3] [0, 4, 7, 8, 9] (S' := [(0, .string a0), (4, .string x13), (7, .slice A15 x14.length cp16), (8, .int .u8 (bt x13 0)), (9, .int .i64 1)]) (by kernel_rfl) ?_
          refine OpsT.done ?_
          refine Qn.then ?_
          obtain ⟨r2, h2, h1⟩ := bindS h1
          refine CodT.meet (fun a w => ∃ (x19 : ByteArray) (x20 : Int) (x21 : Int), .inr (x19, x20, x21) = r2 ∧ Fr 56 [(0, .string a0), (4, .string x19), (7, .slice A15 x14.length cp16), (8, .int .u8 x20), (9, .int .i64 x21)] a ∧ Inv w0 Z w (star (ownS 5 (cI .u8) 1 A15 cp16 x14) A)) ?_ ?_
          ·
            refine CodT.seq ?_
            refine CodT.regionL [0, 1] (by kernel_rfl) ?_
            refine OpsT.pures (r := []) [0, 1] [0, 4, 7, 8, 9, 32] (S' := [(0, .string a0), (4, .string x13), (7, .slice A15 x14.length cp16), (8, .int .u8 (bt x13 0)), (9, .int .i64 1), (32, .bool ((bt x13 0) == 92))]) (by kernel_rfl) ?_
            refine OpsT.done ?_
            refine Qn.then ?_
            by_cases hb22 : ((bt x13 0) == 92) = true
            · rw [if_pos hb22] at h2
              refine CodT.yes' (b := (bt x13 0) == 92) (by kernel_rfl) hb22 ?_
              refine CodT.seq ?_
              refine CodT.regionL [0, 1, 2] (by kernel_rfl) ?_
              refine OpsT.pures (r := [1, 2]) [0] [0, 7, 33] (S' := [(0, .string a0), (7, .slice A15 x14.length cp16), (33, .string x13)]) (by kernel_rfl) ?_
              obtain ⟨hg23, h2⟩ := guardS h2
              refine OpsT.cons (Does.yi (Yl.sliceStr10 (d := 34) (T := 9) (s := x13) (lo := 1) (by kernel_rfl) Go.Proofs.Tryd.underlying9 hg23) hI ?_)
              refine OpsT.pures (r := []) [2] [0, 4, 7] (S' := [(0, .string a0), (4, .string (sx x13 1 (x13.size : Int))), (7, .slice A15 x14.length cp16)]) (by kernel_rfl) ?_
              refine OpsT.done ?_
              refine Qn.then ?_
              refine CodT.seq ?_
              refine CodT.regionL [0, 1, 2, 3, 4, 5, 6] (by kernel_rfl) ?_
              refine OpsT.pures (r := [1, 2, 3, 4, 5, 6]) [0] [0, 4, 7, 36] (S' := [(0, .string a0), (4, .string (sx x13 1 (x13.size : Int))), (7, .slice A15 x14.length cp16), (36, .string (sx x13 1 (x13.size : Int)))]) (by kernel_rfl) ?_
              obtain ⟨⟨y25, y26⟩, hc24, h2⟩ := bindS h2
              try dsimp only at h2
              refine OpsT.cons (Does.call (d := some 37) (n := 17) (vs := [.string (sx x13 1 (x13.size : Int))]) (by kernel_rfl) en17 (c17 w0 w _ _ hI hT (sx x13 1 (x13.size : Int)) _ hc24) ?_)
              rintro e w ⟨rfl, hI⟩
              refine ⟨_, rfl, ?_⟩
              refine OpsT.pures (r := []) [2, 3, 4, 5, 6] [0, 4, 7, 8, 9] (S' := [(0, .string a0), (4, .string (sx x13 1 (x13.size : Int))), (7, .slice A15 x14.length cp16), (8, .int .u8 y25), (9, .int .i64 y26)]) (by kernel_rfl) ?_
              refine OpsT.done ?_
              refine Qn.then ?_
              refine CodT.seq ?_
              refine CodT.regionL [0, 1] (by kernel_rfl) ?_
              refine OpsT.pures (r := []) [0, 1] [0, 4, 7, 8, 9, 41] (S' := [(0, .string a0), (4, .string (sx x13 1 (x13.size : Int))), (7, .slice A15 x14.length cp16), (8, .int .u8 y25), (9, .int .i64 y26), (41, .bool (y26 == 0))]) (by kernel_rfl) ?_
              refine OpsT.done ?_
              refine Qn.then ?_
              by_cases hb27 : (y26 == 0) = true
              · rw [if_pos hb27] at h2
                refine CodT.yes' (b := y26 == 0) (by kernel_rfl) hb27 ?_
                refine CodT.seq ?_
                refine CodT.regionL [0, 1] (by kernel_rfl) ?_
                refine OpsT.pures (r := []) [0, 1] [2, 3] (S' := [(2, .string (⟨#[]⟩ : ByteArray)), (3, .bool false)]) (by kernel_rfl) ?_
                refine OpsT.done ?_
                refine Qn.then ?_
                refine CodT.ret ?_
                refine Qn.ret_then ?_
                refine Qn.block_ret ?_
                refine Qn.ret_then ?_
                refine Qn.block_ret ?_
                refine Qn.ret_then ?_
                refine Qn.ret_then ?_
                have hI := hI.drop
                have e := someS h2
                subst e
                try dsimp only at h1
                have e := someS h1
                subst e
                try dsimp only at h0
                have e := someS h0
                subst e
                refine Qn.keep [2, 3] (S' := [(2, .string (⟨#[]⟩ : ByteArray)), (3, .bool false)]) (by kernel_rfl) ?_
                exact post_ret (v := .tuple #[.string (⟨#[]⟩ : ByteArray), .bool false]) (fun a ha => RunRes.run (vs := [.string (⟨#[]⟩ : ByteArray), .bool false]) (.tmp (t := 2) (by kernel_rfl) (.tmp (t := 3) (by kernel_rfl) .nil)) ha (by kernel_rfl)) ⟨rfl, hI⟩
              · rw [if_neg hb27] at h2
                refine CodT.no' (b := y26 == 0) (by kernel_rfl) (by simpa using hb27) ?_
                refine CodT.skip ?_
                have e := someS h2
                subst e
                exact Qn.thenJ fun a ha => ⟨sx x13 1 (x13.size : Int), y25, y26, rfl, ha.keep [0, 4, 7, 8, 9] (by kernel_rfl), hI⟩
            · rw [if_neg hb22] at h2
              refine CodT.no' (b := (bt x13 0) == 92) (by kernel_rfl) (by simpa using hb22) ?_
              refine CodT.skip ?_
              have e := someS h2
              subst e
              exact Qn.thenJ fun a ha => ⟨x13, bt x13 0, 1, rfl, ha.keep [0, 4, 7, 8, 9] (by kernel_rfl), hI⟩
          ·
            rintro a w ⟨x19, x20, x21, rfl, ha, hI⟩
            try dsimp only at h1
            refine CodT.of ?_ ha
            refine CodT.seq ?_
            refine CodT.regionL [0, 1, 2, 3, 4] (by kernel_rfl) ?_
            refine OpsT.pures (r := [2, 3, 4]) [0, 1] [0, 4, 9, 42, 43] (S' := [(0, .string a0), (4, .string x19), (9, .int .i64 x21), (42, .slice A15 x14.length cp16), (43, .int .u8 x20)]) (by kernel_rfl) ?_
            refine OpsT.cons (Does.buildSlice (en := (cI .u8)) (d := 44) (n := 1) (T := 31) (ps := [(0, .int .u8 x20)]) ([x20] : List Int) (by kernel_rfl) Go.Proofs.Tryd.underlying31 ty5 (by kernel_rfl) (by kernel_rfl) (by kernel_rfl) (by kernel_rfl) (len_all (fun _ => rfl)) hI ?_)
            intro b28 w hI
            obtain ⟨hg29, h1⟩ := guardS h1
            have hI := hI.mono (pick2 _ _ _)
            refine OpsT.cons (Does.append (d := 45) (t := 31) (tx := 31) (ty := 31) (ys := x14) (zs := ([x20] : List Int)) (x := .slice (some ⟨b28, 0, none⟩) (([x20] : List Int).length) 1) (by kernel_rfl) Go.Proofs.Tryd.underlying31 ty5 (by kernel_rfl) hI (src_own Go.Proofs.Tryd.underlying31 (hI.mono (pick2 _ _ _)) (one_flat _ (fun _ => rfl))) (ownS_facts (hI.mono (pick2 _ _ _))).2.2 (by unfold LIM at hg29; omega) hg29 ?_)
            intro A30 cp31 w hI
            refine OpsT.pures (r := []) [4] [0, 4, 7, 9] (S' := [(0, .string a0), (4, .string x19), (7, .slice A30 ((x14 ++ ([x20] : List Int)).length) cp31), (9, .int .i64 x21)]) (by kernel_rfl) ?_
            refine OpsT.done ?_
            refine Qn.then ?_
            refine CodT.regionL [0, 1, 2, 3] (by kernel_rfl) ?_
            refine OpsT.pures (r := [2, 3]) [0, 1] [0, 7, 46, 47] (S' := [(0, .string a0), (7, .slice A30 ((x14 ++ ([x20] : List Int)).length) cp31), (46, .string x19), (47, .int .i64 x21)]) (by kernel_rfl) ?_
            obtain ⟨hg32, h1⟩ := guardS h1
            refine OpsT.cons (Does.yi (Yl.sliceStr10 (d := 48) (T := 9) (s := x19) (lo := x21) (by kernel_rfl) Go.Proofs.Tryd.underlying9 hg32) hI ?_)
            refine OpsT.pures (r := []) [3] [0, 4, 7] (S' := [(0, .string a0), (4, .string (sx x19 x21 (x19.size : Int))), (7, .slice A30 ((x14 ++ ([x20] : List Int)).length) cp31)]) (by kernel_rfl) ?_
            refine OpsT.done ?_
            refine Qn.block_normal ?_
            have hI := hI.mono (pick2 _ _ _)
            have hI := hI.drop
            exact Qn.thenJ fun a ha => ⟨k, Nat.lt_succ_self k, sx x19 x21 (x19.size : Int), x14 ++ ([x20] : List Int), A30, cp31, h1, ha.keep [0, 4, 7] (by kernel_rfl), hI⟩
        · rw [if_neg hb17] at h1
          refine CodT.no' (b := decide ((x13.size : Int) > 0)) (by kernel_rfl) (by simpa using hb17) ?_
          refine CodT.exit ?_
          refine Qn.exit_then ?_
          refine Qn.exit_then ?_
          refine Qn.block ?_
          have e := someS h1
          subst e
          exact Qn.thenJ fun a ha => ⟨x14, A15, cp16, rfl, ha.keep [0, 7] (by kernel_rfl), hI⟩
      ·
        rintro a w ⟨x10, A11, cp12, rfl, ha, hI⟩
        try dsimp only at h0
        refine Qn.of ?_ ha
        refine Qn.then ?_
        refine CodT.seq ?_
        refine CodT.seq ?_
        refine CodT.regionL [0, 1, 2, 3, 4] (by kernel_rfl) ?_
        refine OpsT.pures (r := [1, 2, 3, 4]) [0] [0, 7, 49] (S' := [(0, .string a0), (7, .slice A11 x10.length cp12), (49, .slice A11 x10.length cp12)]) (by kernel_rfl) ?_
        refine OpsT.cons (Does.b2sOwn (d := 50) (src := 31) (dst := 9) (xs := x10) (by kernel_rfl) Go.Proofs.Tryd.underlying31 Go.Proofs.Tryd.underlying5 Go.Proofs.Tryd.underlying9 hI ?_)
        obtain ⟨y34, hc33, h0⟩ := bindS h0
        try dsimp only at h0
        refine OpsT.cons (Does.call (d := some 51) (n := 12) (vs := [.string (strOfNums x10)]) (by kernel_rfl) en12 (c12 w0 w _ _ hI hT (strOfNums x10) _ hc33) ?_)
        rintro e w ⟨rfl, hI⟩
        refine ⟨_, rfl, ?_⟩
        refine OpsT.pures (r := []) [3, 4] [7, 53] (S' := [(7, .slice A11 x10.length cp12), (53, .bool (!(seq y34 a0)))]) (by kernel_rfl) ?_
        refine OpsT.done ?_
        refine Qn.then ?_
        by_cases hb35 : (!(seq y34 a0)) = true
        · rw [if_pos hb35] at h0
          refine CodT.yes' (b := !(seq y34 a0)) (by kernel_rfl) hb35 ?_
          refine CodT.seq ?_
          refine CodT.regionL [0, 1] (by kernel_rfl) ?_
          refine OpsT.pures (r := []) [0, 1] [2, 3] (S' := [(2, .string (⟨#[]⟩ : ByteArray)), (3, .bool false)]) (by kernel_rfl) ?_
          refine OpsT.done ?_
          refine Qn.then ?_
          refine CodT.ret ?_
          refine Qn.ret_then ?_
          have hI := hI.drop
          have e := someS h0
          subst e
          refine Qn.keep [2, 3] (S' := [(2, .string (⟨#[]⟩ : ByteArray)), (3, .bool false)]) (by kernel_rfl) ?_
          exact post_ret (v := .tuple #[.string (⟨#[]⟩ : ByteArray), .bool false]) (fun a ha => RunRes.run (vs := [.string (⟨#[]⟩ : ByteArray), .bool false]) (.tmp (t := 2) (by kernel_rfl) (.tmp (t := 3) (by kernel_rfl) .nil)) ha (by kernel_rfl)) ⟨rfl, hI⟩
        · rw [if_neg hb35] at h0
          refine CodT.no' (b := !(seq y34 a0)) (by kernel_rfl) (by simpa using hb35) ?_
          refine CodT.skip ?_
          refine Qn.then ?_
          refine CodT.seq ?_
          refine CodT.regionL [0, 1, 2, 3] (by kernel_rfl) ?_
          refine OpsT.pures (r := [1, 2, 3]) [0] [54] (S' := [(54, .slice A11 x10.length cp12)]) (by kernel_rfl) ?_
          refine OpsT.cons (Does.b2sOwn (d := 55) (src := 31) (dst := 9) (xs := x10) (by kernel_rfl) Go.Proofs.Tryd.underlying31 Go.Proofs.Tryd.underlying5 Go.Proofs.Tryd.underlying9 hI ?_)
          refine OpsT.pures (r := []) [2, 3] [2, 3] (S' := [(2, .string (strOfNums x10)), (3, .bool true)]) (by kernel_rfl) ?_
          refine OpsT.done ?_
          refine Qn.then ?_
          refine CodT.ret ?_
          have hI := hI.drop
          have e := someS h0
          subst e
          refine Qn.keep [2, 3] (S' := [(2, .string (strOfNums x10)), (3, .bool true)]) (by kernel_rfl) ?_
          exact post_ret (v := .tuple #[.string (strOfNums x10), .bool true]) (fun a ha => RunRes.run (vs := [.string (strOfNums x10), .bool true]) (.tmp (t := 2) (by kernel_rfl) (.tmp (t := 3) (by kernel_rfl) .nil)) ha (by kernel_rfl)) ⟨rfl, hI⟩
set_option maxRecDepth 100000 in
set_option maxHeartbeats 4000000 in
/-- cenotaph/name.Count -/
theorem c10 (w0 w : World) (Z : Hp) (A : HP) (hI : Inv w0 Z w A) (hT : Tabs Z) (a0 : ByteArray) (r : Int) (h0 : name_Count a0 = some r) :
    Calls prog 10 #[.string a0] w (fun e w' => e = .returned (.int .i64 r) ∧ Inv w0 Z w' A) := by
  have e4 := calls_intro (R := (fun e w' => e = .returned (.int .i64 r) ∧ Inv w0 Z w' A)) (w := w) (args := [.string a0]) (fn := Go.Proofs.Tryd.f10) 11 Go.Proofs.Tryd.func10 (by rfl) Go.Proofs.Tryd.ntmps10 (by kernel_rfl)
  refine e4 ?_
  clear e4
  unfold name_Count at h0
  refine CodT.seq ?_
  refine CodT.regionL [0] (by kernel_rfl) ?_
  refine OpsT.pures (r := []) [0] [0] (S' := [(0, .string a0)]) (by kernel_rfl) ?_
  refine OpsT.done ?_
  refine Qn.then ?_
  refine CodT.seq ?_
  refine CodT.regionL [0] (by kernel_rfl) ?_
  refine OpsT.pures (r := []) [0] [0, 3] (S' := [(0, .string a0), (3, .int .i64 0)]) (by kernel_rfl) ?_
  refine OpsT.done ?_
  refine Qn.then ?_
  refine CodT.seq ?_
  refine CodT.seq ?_
  refine CodT.regionL [0, 1] (by kernel_rfl) ?_
  refine OpsT.pures (r := [1]) [0] [3, 4] (S' := [(3, .int .i64 0), (4, .string a0)]) (by kernel_rfl) ?_
  refine OpsT.cons (Does.rangeStr (d := 5) (T := 9) (s := a0) (by kernel_rfl) Go.Proofs.Tryd.underlying9 hI ?_)
  intro b1 w hI
  refine OpsT.done ?_
  refine Qn.then ?_
  obtain ⟨r1, h1, h0⟩ := bindS h0
  refine CodT.meet1 (fun a w => ∃ (x2 : Int), x2 = r1 ∧ Fr 11 [(3, .int .i64 x2)] a ∧ Inv w0 Z w A) ?_ ?_
  ·
    refine CodT.block ?_
    refine (fun a ha => wp_loopN (fun k a w => ∃ (x3 : Int) (x4 : Nat), name_Count.l0 a0 k x3 x4 = some r1 ∧ Fr 11 [(3, .int .i64 x3), (5, .pointer (some ⟨b1, 0, none⟩))] a ∧ Inv w0 Z w (star (pt b1 (.stringIter a0 x4)) A)) ?_ FU a w ⟨0, 0, h1, ha.keep [3, 5] (by kernel_rfl), hI⟩)
    clear h1 hI
    rintro k a w ⟨x3, x4, h1, ha, hI⟩
    rcases k with _ | k
    · cases h1
    simp only [name_Count.l0] at h1
    refine CodT.of ?_ ha
    refine CodT.seq ?_
    refine CodT.regionL [0, 1] (by kernel_rfl) ?_
    by_cases hb5 : x4 < a0.size
    · rw [if_pos hb5] at h1
      refine OpsT.cons (Does.nextStr (d := 6) (b := b1) (pos := x4) (s := a0) (by kernel_rfl) hI hb5 ?_)
      intro w hI
      refine OpsT.pures (r := []) [1] [3, 5, 7] (S' := [(3, .int .i64 x3), (5, .pointer (some ⟨b1, 0, none⟩)), (7, .bool true)]) (by kernel_rfl) ?_
      refine OpsT.done ?_
      refine Qn.then ?_
      refine CodT.seq ?_
      refine CodT.yes (by kernel_rfl) ?_
      refine CodT.skip ?_
      refine Qn.then ?_
      refine CodT.block ?_
      refine CodT.regionL [0, 1, 2] (by kernel_rfl) ?_
      refine OpsT.pures (r := []) [0, 1, 2] [3, 5] (S' := [(3, .int .i64 (wi64 (x3 + 1))), (5, .pointer (some ⟨b1, 0, none⟩))]) (by kernel_rfl) ?_
      refine OpsT.done ?_
      refine Qn.block_normal ?_
      exact Qn.thenJ fun a ha => ⟨k, Nat.lt_succ_self k, wi64 (x3 + 1), x4 + runeW a0 x4, h1, ha.keep [3, 5] (by kernel_rfl), hI⟩
    · rw [if_neg hb5] at h1
      refine OpsT.cons (Does.nextEnd (d := 6) (b := b1) (pos := x4) (s := a0) (by kernel_rfl) hI hb5 ?_)
      refine OpsT.pures (r := []) [1] [3, 5, 7] (S' := [(3, .int .i64 x3), (5, .pointer (some ⟨b1, 0, none⟩)), (7, .bool false)]) (by kernel_rfl) ?_
      refine OpsT.done ?_
      refine Qn.then ?_
      refine CodT.seq ?_
      refine CodT.no (by kernel_rfl) ?_
      refine CodT.exit ?_
      refine Qn.exit_then ?_
      refine Qn.exit_then ?_
      refine Qn.block ?_
      have hI := hI.drop
      have e := someS h1
      subst e
      exact Qn.thenJ fun a ha => ⟨x3, rfl, ha.keep [3] (by kernel_rfl), hI⟩
  ·
    rintro a w ⟨x2, rfl, ha, hI⟩
    try dsimp only at h0
    refine Qn.of ?_ ha
    refine Qn.then ?_
    refine CodT.seq ?_
    refine CodT.regionL [0, 1] (by kernel_rfl) ?_
    refine OpsT.pures (r := []) [0, 1] [2] (S' := [(2, .int .i64 x2)]) (by kernel_rfl) ?_
    refine OpsT.done ?_
    refine Qn.then ?_
    refine CodT.ret ?_
    have e := someS h0
    subst e
    refine Qn.keep [2] (S' := [(2, .int .i64 x2)]) (by kernel_rfl) ?_
    exact post_ret (v := .int .i64 x2) (fun a ha => RunRes.run (vs := [.int .i64 x2]) (.tmp (t := 2) (by kernel_rfl) .nil) ha (by kernel_rfl)) ⟨rfl, hI⟩
set_option maxRecDepth 100000 in
set_option maxHeartbeats 4000000 in
/-- cenotaph/name.Valid$1 -/
theorem c19 (w0 w : World) (Z : Hp) (A : HP) (hI : Inv w0 Z w A) (hT : Tabs Z) (a0 : Int) (r : Bool) (h0 : name_Valid_1 a0 = some r) :
    Calls prog 19 #[.int .i32 a0] w (fun e w' => e = .returned (.bool r) ∧ Inv w0 Z w' A) := by
  have e4 := calls_intro (R := (fun e w' => e = .returned (.bool r) ∧ Inv w0 Z w' A)) (w := w) (args := [.int .i32 a0]) (fn := Go.Proofs.Tryd.f19) 21 Go.Proofs.Tryd.func19 (by rfl) Go.Proofs.Tryd.ntmps19 (by kernel_rfl)
  refine e4 ?_
  clear e4
  unfold name_Valid_1 at h0
  refine CodT.seq ?_
  refine CodT.regionL [0] (by kernel_rfl) ?_
  refine OpsT.pures (r := []) [0] [0] (S' := [(0, .int .i32 a0)]) (by kernel_rfl) ?_
  refine OpsT.done ?_
  refine Qn.then ?_
  obtain ⟨r1, h1, h0⟩ := bindS h0
  refine CodT.meet (fun a w => ∃ (x1 : Bool), x1 = r1 ∧ Fr 21 [(2, .bool x1)] a ∧ Inv w0 Z w A) ?_ ?_
  ·
    refine CodT.regionL [0, 1, 2, 3, 4, 5, 6, 7, 8, 9, 10, 11, 12, 13, 14, 15, 16, 17, 18] (by kernel_rfl) ?_
    refine OpsT.pures (r := [3, 4, 5, 6, 7, 8, 9, 10, 11, 12, 13, 14, 15, 16, 17, 18]) [0, 1, 2] [0, 5] (S' := [(0, .int .i32 a0), (5, .bool (decide (a0 < 32)))]) (by kernel_rfl) ?_
    by_cases hb2 : (decide (a0 < 32)) = true
    · rw [if_pos hb2] at h1
      refine OpsT.keep [0, 5] (S' := [(0, .int .i32 a0), (5, .bool true)]) (by simp only [hb2]; kernel_rfl) ?_
      refine OpsT.pures (r := []) [3, 4, 5, 6, 7, 8, 9, 10, 11, 12, 13, 14, 15, 16, 17, 18] [2] (S' := [(2, .bool true)]) (by kernel_rfl) ?_
      refine OpsT.done ?_
      have e := someS h1
      subst e
      exact Qn.thenJ fun a ha => ⟨true, rfl, ha.keep [2] (by kernel_rfl), hI⟩
    · rw [if_neg hb2] at h1
      have hb2 : (decide (a0 < 32)) = false := by simpa using hb2
      refine OpsT.keep [0, 5] (S' := [(0, .int .i32 a0), (5, .bool false)]) (by simp only [hb2]; kernel_rfl) ?_
      refine OpsT.pures (r := [7, 8, 9, 10, 11, 12, 13, 14, 15, 16, 17, 18]) [3, 4, 5, 6] [0, 9] (S' := [(0, .int .i32 a0), (9, .bool (a0 == 47))]) (by kernel_rfl) ?_
      by_cases hb3 : (a0 == 47) = true
      · rw [if_pos hb3] at h1
        refine OpsT.keep [0, 9] (S' := [(0, .int .i32 a0), (9, .bool true)]) (by simp only [hb3]; kernel_rfl) ?_
        refine OpsT.pures (r := []) [7, 8, 9, 10, 11, 12, 13, 14, 15, 16, 17, 18] [2] (S' := [(2, .bool true)]) (by kernel_rfl) ?_
        refine OpsT.done ?_
        have e := someS h1
        subst e
        exact Qn.thenJ fun a ha => ⟨true, rfl, ha.keep [2] (by kernel_rfl), hI⟩
      · rw [if_neg hb3] at h1
        have hb3 : (a0 == 47) = false := by simpa using hb3
        refine OpsT.keep [0, 9] (S' := [(0, .int .i32 a0), (9, .bool false)]) (by simp only [hb3]; kernel_rfl) ?_
        refine OpsT.pures (r := [10, 11, 12, 13, 14, 15, 16, 17, 18]) [7, 8, 9] [0, 9, 12] (S' := [(0, .int .i32 a0), (9, .bool false), (12, .bool (decide ((127 : Int) ≤ a0)))]) (by kernel_rfl) ?_
        by_cases hb4 : (decide ((127 : Int) ≤ a0)) = true
        · rw [if_pos hb4] at h1
          refine OpsT.keep [0, 9, 12] (S' := [(0, .int .i32 a0), (9, .bool false), (12, .bool true)]) (by simp only [hb4]; kernel_rfl) ?_
          refine OpsT.pures (r := [15, 16, 17, 18]) [10, 11, 12, 13, 14] [0, 17] (S' := [(0, .int .i32 a0), (17, .bool (decide (a0 ≤ 159)))]) (by kernel_rfl) ?_
          by_cases hb5 : (decide (a0 ≤ 159)) = true
          · rw [if_pos hb5] at h1
            refine OpsT.keep [0, 17] (S' := [(0, .int .i32 a0), (17, .bool true)]) (by simp only [hb5]; kernel_rfl) ?_
            refine OpsT.pures (r := []) [15, 16, 17, 18] [2] (S' := [(2, .bool true)]) (by kernel_rfl) ?_
            refine OpsT.done ?_
            have e := someS h1
            subst e
            exact Qn.thenJ fun a ha => ⟨true, rfl, ha.keep [2] (by kernel_rfl), hI⟩
          · rw [if_neg hb5] at h1
            have hb5 : (decide (a0 ≤ 159)) = false := by simpa using hb5
            refine OpsT.keep [0, 17] (S' := [(0, .int .i32 a0), (17, .bool false)]) (by simp only [hb5]; kernel_rfl) ?_
            refine OpsT.pures (r := []) [15, 16, 17, 18] [2] (S' := [(2, .bool (a0 == 65533))]) (by kernel_rfl) ?_
            refine OpsT.done ?_
            have e := someS h1
            subst e
            exact Qn.thenJ fun a ha => ⟨a0 == 65533, rfl, ha.keep [2] (by kernel_rfl), hI⟩
        · rw [if_neg hb4] at h1
          have hb4 : (decide ((127 : Int) ≤ a0)) = false := by simpa using hb4
          refine OpsT.keep [0, 9, 12] (S' := [(0, .int .i32 a0), (9, .bool false), (12, .bool false)]) (by simp only [hb4]; kernel_rfl) ?_
          refine OpsT.pures (r := []) [10, 11, 12, 13, 14, 15, 16, 17, 18] [2] (S' := [(2, .bool (a0 == 65533))]) (by kernel_rfl) ?_
          refine OpsT.done ?_
          have e := someS h1
          subst e
          exact Qn.thenJ fun a ha => ⟨a0 == 65533, rfl, ha.keep [2] (by kernel_rfl), hI⟩
  ·
    rintro a w ⟨x1, rfl, ha, hI⟩
    try dsimp only at h0
    refine CodT.of ?_ ha
    refine CodT.ret ?_
    have e := someS h0
    subst e
    refine Qn.keep [2] (S' := [(2, .bool x1)]) (by kernel_rfl) ?_
    exact post_ret (v := .bool x1) (fun a ha => RunRes.run (vs := [.bool x1]) (.tmp (t := 2) (by kernel_rfl) .nil) ha (by kernel_rfl)) ⟨rfl, hI⟩
set_option maxRecDepth 100000 in
set_option maxHeartbeats 4000000 in
/-- strings.indexFunc -/
theorem c31 (w0 w : World) (Z : Hp) (A : HP) (hI : Inv w0 Z w A) (hT : Tabs Z) (a0 : ByteArray) (a2 : Bool) (r : Int) (h0 : strings_indexFunc__name_Valid_1 a0 a2 = some r) :
    Calls prog 31 #[.string a0, .func (.func 19) #[] #[], .bool a2] w (fun e w' => e = .returned (.int .i64 r) ∧ Inv w0 Z w' A) := by
  have e4 := calls_intro (R := (fun e w' => e = .returned (.int .i64 r) ∧ Inv w0 Z w' A)) (w := w) (args := [.string a0, .func (.func 19) #[] #[], .bool a2]) (fn := Go.Proofs.Tryd.f31) 21 Go.Proofs.Tryd.func31 (by rfl) Go.Proofs.Tryd.ntmps31 (by kernel_rfl)
  refine e4 ?_
  clear e4
  unfold strings_indexFunc__name_Valid_1 at h0
  refine CodT.seq ?_
  refine CodT.regionL [0] (by kernel_rfl) ?_
  refine OpsT.pures (r := []) [0] [0, 1, 2] (S' := [(0, .string a0), (1, .func (.func 19) #[] #[]), (2, .bool a2)]) (by kernel_rfl) ?_
  refine OpsT.done ?_
  refine Qn.then ?_
  refine CodT.seq ?_
  refine CodT.seq ?_
  refine CodT.regionL [0, 1] (by kernel_rfl) ?_
  refine OpsT.pures (r := [1]) [0] [1, 2, 9] (S' := [(1, .func (.func 19) #[] #[]), (2, .bool a2), (9, .string a0)]) (by kernel_rfl) ?_
  refine OpsT.cons (Does.rangeStr (d := 10) (T := 9) (s := a0) (by kernel_rfl) Go.Proofs.Tryd.underlying9 hI ?_)
  intro b1 w hI
  refine OpsT.done ?_
  refine Qn.then ?_
  obtain ⟨r1, h1, h0⟩ := bindS h0
  refine CodT.meet1 (fun a w => .inr () = r1 ∧ Fr 21 [] a ∧ Inv w0 Z w A) ?_ ?_
  ·
    refine CodT.block ?_
    refine (fun a ha => wp_loopN (fun k a w => ∃ (x2 : Nat), strings_indexFunc__name_Valid_1.l0 a0 a2 k x2 = some r1 ∧ Fr 21 [(1, .func (.func 19) #[] #[]), (2, .bool a2), (10, .pointer (some ⟨b1, 0, none⟩))] a ∧ Inv w0 Z w (star (pt b1 (.stringIter a0 x2)) A)) ?_ FU a w ⟨0, h1, ha.keep [1, 2, 10] (by kernel_rfl), hI⟩)
    clear h1 hI
    rintro k a w ⟨x2, h1, ha, hI⟩
    rcases k with _ | k
    · cases h1
    simp only [strings_indexFunc__name_Valid_1.l0] at h1
    refine CodT.of ?_ ha
    refine CodT.seq ?_
    refine CodT.regionL [0, 1] (by kernel_rfl) ?_
    by_cases hb3 : x2 < a0.size
    · rw [if_pos hb3] at h1
      refine OpsT.cons (Does.nextStr (d := 11) (b := b1) (pos := x2) (s := a0) (by kernel_rfl) hI hb3 ?_)
      intro w hI
      refine OpsT.pures (r := []) [1] [1, 2, 10, 11, 12] (S' := [(1, .func (.func 19) #[] #[]), (2, .bool a2), (10, .pointer (some ⟨b1, 0, none⟩)), (11, .tuple #[.bool true, .int .i64 (x2 : Int), .int .i32 (runeAt a0 x2)]), (12, .bool true)]) (by kernel_rfl) ?_
      refine OpsT.done ?_
      refine Qn.then ?_
      refine CodT.seq ?_
      refine CodT.yes (by kernel_rfl) ?_
      refine CodT.skip ?_
      refine Qn.then ?_
      refine CodT.block ?_
      refine CodT.seq ?_
      refine CodT.regionL [0, 1, 2, 3] (by kernel_rfl) ?_
      refine OpsT.pures (r := []) [0, 1, 2, 3] [1, 2, 7, 8, 10] (S' := [(1, .func (.func 19) #[] #[]), (2, .bool a2), (7, .int .i64 (x2 : Int)), (8, .int .i32 (runeAt a0 x2)), (10, .pointer (some ⟨b1, 0, none⟩))]) (by kernel_rfl) ?_
      refine OpsT.done ?_
      refine Qn.then ?_
      refine CodT.seq ?_
      refine CodT.regionL [0, 1, 2, 3, 4] (by kernel_rfl) ?_
      refine OpsT.pures (r := [2, 3, 4]) [0, 1] [1, 2, 7, 10, 15, 16] (S' := [(1, .func (.func 19) #[] #[]), (2, .bool a2), (7, .int .i64 (x2 : Int)), (10, .pointer (some ⟨b1, 0, none⟩)), (15, .func (.func 19) #[] #[]), (16, .int .i32 (runeAt a0 x2))]) (by kernel_rfl) ?_
      obtain ⟨y5, hc4, h1⟩ := bindS h1
      try dsimp only at h1
      refine OpsT.cons (Does.call (d := some 17) (n := 19) (vs := [.int .i32 (runeAt a0 x2)]) (by kernel_rfl) en19 (c19 w0 w _ _ hI hT (runeAt a0 x2) _ hc4) ?_)
      rintro e w ⟨rfl, hI⟩
      refine ⟨_, rfl, ?_⟩
      refine OpsT.pures (r := []) [3, 4] [1, 2, 7, 10, 19] (S' := [(1, .func (.func 19) #[] #[]), (2, .bool a2), (7, .int .i64 (x2 : Int)), (10, .pointer (some ⟨b1, 0, none⟩)), (19, .bool (y5 == a2))]) (by kernel_rfl) ?_
      refine OpsT.done ?_
      refine Qn.then ?_
      by_cases hb6 : (y5 == a2) = true
      · rw [if_pos hb6] at h1
        refine CodT.yes' (b := y5 == a2) (by kernel_rfl) hb6 ?_
        refine CodT.seq ?_
        refine CodT.regionL [0, 1] (by kernel_rfl) ?_
        refine OpsT.pures (r := []) [0, 1] [6] (S' := [(6, .int .i64 (x2 : Int))]) (by kernel_rfl) ?_
        refine OpsT.done ?_
        refine Qn.then ?_
        refine CodT.ret ?_
        refine Qn.block_ret ?_
        refine Qn.ret_then ?_
        refine Qn.block_ret ?_
        refine Qn.ret_then ?_
        refine Qn.ret_then ?_
        have hI := hI.drop
        have e := someS h1
        subst e
        try dsimp only at h0
        have e := someS h0
        subst e
        refine Qn.keep [6] (S' := [(6, .int .i64 (x2 : Int))]) (by kernel_rfl) ?_
        exact post_ret (v := .int .i64 (x2 : Int)) (fun a ha => RunRes.run (vs := [.int .i64 (x2 : Int)]) (.tmp (t := 6) (by kernel_rfl) .nil) ha (by kernel_rfl)) ⟨rfl, hI⟩
      · rw [if_neg hb6] at h1
        refine CodT.no' (b := y5 == a2) (by kernel_rfl) (by simpa using hb6) ?_
        refine CodT.skip ?_
        refine Qn.block_normal ?_
        exact Qn.thenJ fun a ha => ⟨k, Nat.lt_succ_self k, x2 + runeW a0 x2, h1, ha.keep [1, 2, 10] (by kernel_rfl), hI⟩
    · rw [if_neg hb3] at h1
      refine OpsT.cons (Does.nextEnd (d := 11) (b := b1) (pos := x2) (s := a0) (by kernel_rfl) hI hb3 ?_)
      refine OpsT.pures (r := []) [1] [1, 2, 10, 11, 12] (S' := [(1, .func (.func 19) #[] #[]), (2, .bool a2), (10, .pointer (some ⟨b1, 0, none⟩)), (11, .tuple #[.bool false]), (12, .bool false)]) (by kernel_rfl) ?_
      refine OpsT.done ?_
      refine Qn.then ?_
      refine CodT.seq ?_
      refine CodT.no (by kernel_rfl) ?_
      refine CodT.exit ?_
      refine Qn.exit_then ?_
      refine Qn.exit_then ?_
      refine Qn.block ?_
      have hI := hI.drop
      have e := someS h1
      subst e
      exact Qn.thenJ fun a ha => ⟨rfl, ha.keep [] (by kernel_rfl), hI⟩
  ·
    rintro a w ⟨rfl, ha, hI⟩
    try dsimp only at h0
    refine Qn.of ?_ ha
    refine Qn.then ?_
    refine CodT.seq ?_
    refine CodT.regionL [0] (by kernel_rfl) ?_
    refine OpsT.pures (r := []) [0] [6] (S' := [(6, .int .i64 (-1))]) (by kernel_rfl) ?_
    refine OpsT.done ?_
    refine Qn.then ?_
    refine CodT.ret ?_
    have e := someS h0
    subst e
    refine Qn.keep [6] (S' := [(6, .int .i64 (-1))]) (by kernel_rfl) ?_
    exact post_ret (v := .int .i64 (-1)) (fun a ha => RunRes.run (vs := [.int .i64 (-1)]) (.tmp (t := 6) (by kernel_rfl) .nil) ha (by kernel_rfl)) ⟨rfl, hI⟩
set_option maxRecDepth 100000 in
set_option maxHeartbeats 4000000 in
/-- strings.IndexFunc -/
theorem c20 (w0 w : World) (Z : Hp) (A : HP) (hI : Inv w0 Z w A) (hT : Tabs Z) (a0 : ByteArray) (r : Int) (h0 : strings_IndexFunc__name_Valid_1 a0 = some r) :
    Calls prog 20 #[.string a0, .func (.func 19) #[] #[]] w (fun e w' => e = .returned (.int .i64 r) ∧ Inv w0 Z w' A) := by
  have e4 := calls_intro (R := (fun e w' => e = .returned (.int .i64 r) ∧ Inv w0 Z w' A)) (w := w) (args := [.string a0, .func (.func 19) #[] #[]]) (fn := Go.Proofs.Tryd.f20) 8 Go.Proofs.Tryd.func20 (by rfl) Go.Proofs.Tryd.ntmps20 (by kernel_rfl)
  refine e4 ?_
  clear e4
  unfold strings_IndexFunc__name_Valid_1 at h0
  refine CodT.seq ?_
  refine CodT.regionL [0] (by kernel_rfl) ?_
  refine OpsT.pures (r := []) [0] [0, 1] (S' := [(0, .string a0), (1, .func (.func 19) #[] #[])]) (by kernel_rfl) ?_
  refine OpsT.done ?_
  refine Qn.then ?_
  refine CodT.seq ?_
  refine CodT.regionL [0, 1, 2, 3] (by kernel_rfl) ?_
  refine OpsT.pures (r := [2, 3]) [0, 1] [5, 6] (S' := [(5, .string a0), (6, .func (.func 19) #[] #[])]) (by kernel_rfl) ?_
  obtain ⟨y2, hc1, h0⟩ := bindS h0
  try dsimp only at h0
  refine OpsT.cons (Does.call (d := some 7) (n := 31) (vs := [.string a0, .func (.func 19) #[] #[], .bool true]) (by kernel_rfl) en31 (c31 w0 w _ _ hI hT a0 true _ hc1) ?_)
  rintro e w ⟨rfl, hI⟩
  refine ⟨_, rfl, ?_⟩
  refine OpsT.pures (r := []) [3] [4] (S' := [(4, .int .i64 y2)]) (by kernel_rfl) ?_
  refine OpsT.done ?_
  refine Qn.then ?_
  refine CodT.ret ?_
  have e := someS h0
  subst e
  refine Qn.keep [4] (S' := [(4, .int .i64 y2)]) (by kernel_rfl) ?_
  exact post_ret (v := .int .i64 y2) (fun a ha => RunRes.run (vs := [.int .i64 y2]) (.tmp (t := 4) (by kernel_rfl) .nil) ha (by kernel_rfl)) ⟨rfl, hI⟩
set_option maxRecDepth 100000 in
set_option maxHeartbeats 4000000 in
/-- cenotaph/name.Valid -/
theorem c9 (w0 w : World) (Z : Hp) (A : HP) (hI : Inv w0 Z w A) (hT : Tabs Z) (a0 : ByteArray) (r : Bool) (h0 : name_Valid a0 = some r) :
    Calls prog 9 #[.string a0] w (fun e w' => e = .returned (.bool r) ∧ Inv w0 Z w' A) := by
  have e4 := calls_intro (R := (fun e w' => e = .returned (.bool r) ∧ Inv w0 Z w' A)) (w := w) (args := [.string a0]) (fn := Go.Proofs.Tryd.f9) 32 Go.Proofs.Tryd.func9 (by rfl) Go.Proofs.Tryd.ntmps9 (by kernel_rfl)
  refine e4 ?_
  clear e4
  unfold name_Valid at h0
  refine CodT.seq ?_
  refine CodT.regionL [0] (by kernel_rfl) ?_
  refine OpsT.pures (r := []) [0] [0] (S' := [(0, .string a0)]) (by kernel_rfl) ?_
  refine OpsT.done ?_
  refine Qn.then ?_
  refine CodT.seq ?_
  refine CodT.regionL [0] (by kernel_rfl) ?_
  refine OpsT.pures (r := []) [0] [0, 3] (S' := [(0, .string a0), (3, .func (.func 19) #[] #[])]) (by kernel_rfl) ?_
  refine OpsT.done ?_
  refine Qn.then ?_
  refine CodT.seq ?_
  refine CodT.regionL [0, 1, 2] (by kernel_rfl) ?_
  refine OpsT.pures (r := [1, 2]) [0] [0, 3, 5] (S' := [(0, .string a0), (3, .func (.func 19) #[] #[]), (5, .string a0)]) (by kernel_rfl) ?_
  obtain ⟨y2, hc1, h0⟩ := bindS h0
  try dsimp only at h0
  refine OpsT.cons (Does.call (d := some 6) (n := 10) (vs := [.string a0]) (by kernel_rfl) en10 (c10 w0 w _ _ hI hT a0 _ hc1) ?_)
  rintro e w ⟨rfl, hI⟩
  refine ⟨_, rfl, ?_⟩
  refine OpsT.pures (r := []) [2] [0, 3, 4] (S' := [(0, .string a0), (3, .func (.func 19) #[] #[]), (4, .int .i64 y2)]) (by kernel_rfl) ?_
  refine OpsT.done ?_
  refine Qn.then ?_
  obtain ⟨r1, h1, h0⟩ := bindS h0
  refine CodT.meet (fun a w => ∃ (x3 : Bool), x3 = r1 ∧ Fr 32 [(2, .bool x3)] a ∧ Inv w0 Z w A) ?_ ?_
  ·
    refine CodT.regionL [0, 1, 2, 3, 4, 5, 6, 7, 8, 9, 10, 11, 12, 13, 14, 15, 16, 17, 18, 19, 20, 21, 22, 23, 24, 25] (by kernel_rfl) ?_
    refine OpsT.pures (r := [3, 4, 5, 6, 7, 8, 9, 10, 11, 12, 13, 14, 15, 16, 17, 18, 19, 20, 21, 22, 23, 24, 25]) [0, 1, 2] [0, 3, 4, 9] (S' := [(0, .string a0), (3, .func (.func 19) #[] #[]), (4, .int .i64 y2), (9, .bool (decide (y2 > 0)))]) (by kernel_rfl) ?_
    by_cases hb4 : (decide (y2 > 0)) = true
    · rw [if_pos hb4] at h1
      refine OpsT.keep [0, 3, 4, 9] (S' := [(0, .string a0), (3, .func (.func 19) #[] #[]), (4, .int .i64 y2), (9, .bool true)]) (by simp only [hb4]; kernel_rfl) ?_
      refine OpsT.pures (r := [7, 8, 9, 10, 11, 12, 13, 14, 15, 16, 17, 18, 19, 20, 21, 22, 23, 24, 25]) [3, 4, 5, 6] [0, 3, 13] (S' := [(0, .string a0), (3, .func (.func 19) #[] #[]), (13, .bool (decide (y2 ≤ 24)))]) (by kernel_rfl) ?_
      by_cases hb5 : (decide (y2 ≤ 24)) = true
      · rw [if_pos hb5] at h1
        refine OpsT.keep [0, 3, 13] (S' := [(0, .string a0), (3, .func (.func 19) #[] #[]), (13, .bool true)]) (by simp only [hb5]; kernel_rfl) ?_
        refine OpsT.pures (r := [9, 10, 11, 12, 13, 14, 15, 16, 17, 18, 19, 20, 21, 22, 23, 24, 25]) [7, 8] [0, 13, 14, 15] (S' := [(0, .string a0), (13, .bool true), (14, .string a0), (15, .func (.func 19) #[] #[])]) (by kernel_rfl) ?_
        obtain ⟨y7, hc6, h1⟩ := bindS h1
        try dsimp only at h1
        refine OpsT.cons (Does.call (d := some 16) (n := 20) (vs := [.string a0, .func (.func 19) #[] #[]]) (by kernel_rfl) en20 (c20 w0 w _ _ hI hT a0 _ hc6) ?_)
        rintro e w ⟨rfl, hI⟩
        refine ⟨_, rfl, ?_⟩
        refine OpsT.pures (r := [13, 14, 15, 16, 17, 18, 19, 20, 21, 22, 23, 24, 25]) [10, 11, 12] [0, 19] (S' := [(0, .string a0), (19, .bool (decide (y7 < 0)))]) (by kernel_rfl) ?_
        by_cases hb8 : (decide (y7 < 0)) = true
        · rw [if_pos hb8] at h1
          refine OpsT.keep [0, 19] (S' := [(0, .string a0), (19, .bool true)]) (by simp only [hb8]; kernel_rfl) ?_
          refine OpsT.pures (r := [14, 15, 16, 17, 18, 19, 20, 21, 22, 23, 24, 25]) [13] [0, 19, 20] (S' := [(0, .string a0), (19, .bool true), (20, .string a0)]) (by kernel_rfl) ?_
          obtain ⟨hg9, h1⟩ := guardS h1
          refine OpsT.cons (Does.yi (Yl.indexStr (d := 21) (T := 9) (k := .i64) (j := 0) (s := a0) (by kernel_rfl) Go.Proofs.Tryd.underlying9 hg9.1 hg9.2) hI ?_)
          refine OpsT.pures (r := [18, 19, 20, 21, 22, 23, 24, 25]) [15, 16, 17] [0, 24] (S' := [(0, .string a0), (24, .bool ((bt a0 0) != 32))]) (by kernel_rfl) ?_
          by_cases hb10 : ((bt a0 0) != 32) = true
          · rw [if_pos hb10] at h1
            refine OpsT.keep [0, 24] (S' := [(0, .string a0), (24, .bool true)]) (by simp only [hb10]; kernel_rfl) ?_
            refine OpsT.pures (r := [22, 23, 24, 25]) [18, 19, 20, 21] [24, 25, 28] (S' := [(24, .bool true), (25, .string a0), (28, .int .i64 (wi64 ((a0.size : Int) - 1)))]) (by kernel_rfl) ?_
            obtain ⟨hg11, h1⟩ := guardS h1
            refine OpsT.cons (Does.yi (Yl.indexStr (d := 29) (T := 9) (k := .i64) (j := wi64 ((a0.size : Int) - 1)) (s := a0) (by kernel_rfl) Go.Proofs.Tryd.underlying9 hg11.1 hg11.2) hI ?_)
            refine OpsT.pures (r := []) [23, 24, 25] [2] (S' := [(2, .bool ((bt a0 (wi64 ((a0.size : Int) - 1))) != 32))]) (by kernel_rfl) ?_
            refine OpsT.done ?_
            have e := someS h1
            subst e
            exact Qn.thenJ fun a ha => ⟨(bt a0 (wi64 ((a0.size : Int) - 1))) != 32, rfl, ha.keep [2] (by kernel_rfl), hI⟩
          · rw [if_neg hb10] at h1
            have hb10 : ((bt a0 0) != 32) = false := by simpa using hb10
            refine OpsT.keep [0, 24] (S' := [(0, .string a0), (24, .bool false)]) (by simp only [hb10]; kernel_rfl) ?_
            refine OpsT.pures (r := []) [18, 19, 20, 21, 22, 23, 24, 25] [2] (S' := [(2, .bool false)]) (by kernel_rfl) ?_
            refine OpsT.done ?_
            have e := someS h1
            subst e
            exact Qn.thenJ fun a ha => ⟨false, rfl, ha.keep [2] (by kernel_rfl), hI⟩
        · rw [if_neg hb8] at h1
          have hb8 : (decide (y7 < 0)) = false := by simpa using hb8
          refine OpsT.keep [0, 19] (S' := [(0, .string a0), (19, .bool false)]) (by simp only [hb8]; kernel_rfl) ?_
          refine OpsT.pures (r := []) [13, 14, 15, 16, 17, 18, 19, 20, 21, 22, 23, 24, 25] [2] (S' := [(2, .bool false)]) (by kernel_rfl) ?_
          refine OpsT.done ?_
          have e := someS h1
          subst e
          exact Qn.thenJ fun a ha => ⟨false, rfl, ha.keep [2] (by kernel_rfl), hI⟩
      · rw [if_neg hb5] at h1
        have hb5 : (decide (y2 ≤ 24)) = false := by simpa using hb5
        refine OpsT.keep [0, 3, 13] (S' := [(0, .string a0), (3, .func (.func 19) #[] #[]), (13, .bool false)]) (by simp only [hb5]; kernel_rfl) ?_
        refine OpsT.pures (r := []) [7, 8, 9, 10, 11, 12, 13, 14, 15, 16, 17, 18, 19, 20, 21, 22, 23, 24, 25] [2] (S' := [(2, .bool false)]) (by kernel_rfl) ?_
        refine OpsT.done ?_
        have e := someS h1
        subst e
        exact Qn.thenJ fun a ha => ⟨false, rfl, ha.keep [2] (by kernel_rfl), hI⟩
    · rw [if_neg hb4] at h1
      have hb4 : (decide (y2 > 0)) = false := by simpa using hb4
      refine OpsT.keep [0, 3, 4, 9] (S' := [(0, .string a0), (3, .func (.func 19) #[] #[]), (4, .int .i64 y2), (9, .bool false)]) (by simp only [hb4]; kernel_rfl) ?_
      refine OpsT.pures (r := []) [3, 4, 5, 6, 7, 8, 9, 10, 11, 12, 13, 14, 15, 16, 17, 18, 19, 20, 21, 22, 23, 24, 25] [2] (S' := [(2, .bool false)]) (by kernel_rfl) ?_
      refine OpsT.done ?_
      have e := someS h1
      subst e
      exact Qn.thenJ fun a ha => ⟨false, rfl, ha.keep [2] (by kernel_rfl), hI⟩
  ·
    rintro a w ⟨x3, rfl, ha, hI⟩
    try dsimp only at h0
    refine CodT.of ?_ ha
    refine CodT.ret ?_
    have e := someS h0
    subst e
    refine Qn.keep [2] (S' := [(2, .bool x3)]) (by kernel_rfl) ?_
    exact post_ret (v := .bool x3) (fun a ha => RunRes.run (vs := [.bool x3]) (.tmp (t := 2) (by kernel_rfl) .nil) ha (by kernel_rfl)) ⟨rfl, hI⟩
set_option maxRecDepth 100000 in
set_option maxHeartbeats 4000000 in
/-- cenotaph/name.runes -/
theorem c27 (w0 w : World) (Z : Hp) (A : HP) (hI : Inv w0 Z w A) (hT : Tabs Z) (a0 : ByteArray) (r : (List Int)) (h0 : name_runes a0 = some r) :
    Calls prog 27 #[.string a0] w (fun e w' => ∃ (A1 : Option Addr) (c1 : Nat), e = .returned (.slice A1 r.length c1) ∧ Inv w0 Z w' (star (ownS 21 (cI .i32) 1 A1 c1 r) A)) := by
  have e4 := calls_intro (R := (fun e w' => ∃ (A1 : Option Addr) (c1 : Nat), e = .returned (.slice A1 r.length c1) ∧ Inv w0 Z w' (star (ownS 21 (cI .i32) 1 A1 c1 r) A))) (w := w) (args := [.string a0]) (fn := Go.Proofs.Tryd.f27) 26 Go.Proofs.Tryd.func27 (by rfl) Go.Proofs.Tryd.ntmps27 (by kernel_rfl)
  refine e4 ?_
  clear e4
  unfold name_runes at h0
  refine CodT.seq ?_
  refine CodT.regionL [0] (by kernel_rfl) ?_
  refine OpsT.pures (r := []) [0] [0] (S' := [(0, .string a0)]) (by kernel_rfl) ?_
  refine OpsT.done ?_
  refine Qn.then ?_
  refine CodT.seq ?_
  refine CodT.regionL [0] (by kernel_rfl) ?_
  refine OpsT.pures (r := []) [0] [0, 3] (S' := [(0, .string a0), (3, .slice none 0 0)]) (by kernel_rfl) ?_
  refine OpsT.done ?_
  refine Qn.then ?_
  refine CodT.seq ?_
  refine CodT.seq ?_
  refine CodT.regionL [0, 1] (by kernel_rfl) ?_
  refine OpsT.pures (r := [1]) [0] [0, 3, 6] (S' := [(0, .string a0), (3, .slice none 0 0), (6, .string a0)]) (by kernel_rfl) ?_
  refine OpsT.cons (Does.rangeStr (d := 7) (T := 9) (s := a0) (by kernel_rfl) Go.Proofs.Tryd.underlying9 hI ?_)
  intro b1 w hI
  refine OpsT.done ?_
  refine Qn.then ?_
  obtain ⟨r1, h1, h0⟩ := bindS h0
  refine CodT.meet1 (fun a w => ∃ (x2 : (List Int)) (A3 : Option Addr) (cp4 : Nat), x2 = r1 ∧ Fr 26 [(3, .slice A3 x2.length cp4)] a ∧ Inv w0 Z w (star (ownS 21 (cI .i32) 1 A3 cp4 x2) A)) ?_ ?_
  ·
    refine CodT.block ?_
    have hI := ownS_nil (α := Int) hI 21 (cI .i32) 1
    refine (fun a ha => wp_loopN (fun k a w => ∃ (x5 : (List Int)) (x8 : Nat) (A6 : Option Addr) (cp7 : Nat), name_runes.l0 a0 k x5 x8 = some r1 ∧ Fr 26 [(0, .string a0), (3, .slice A6 x5.length cp7), (7, .pointer (some ⟨b1, 0, none⟩))] a ∧ Inv w0 Z w (star (ownS 21 (cI .i32) 1 A6 cp7 x5) (star (pt b1 (.stringIter a0 x8)) A))) ?_ FU a w ⟨([] : List Int), 0, none, 0, h1, ha.keep [0, 3, 7] (by kernel_rfl), hI⟩)
    clear h1 hI
    rintro k a w ⟨x5, x8, A6, cp7, h1, ha, hI⟩
    rcases k with _ | k
    · cases h1
    simp only [name_runes.l0] at h1
    refine CodT.of ?_ ha
    refine CodT.seq ?_
    refine CodT.regionL [0, 1] (by kernel_rfl) ?_
    have hI := hI.mono (pick2 _ _ _)
    by_cases hb9 : x8 < a0.size
    · rw [if_pos hb9] at h1
      refine OpsT.cons (Does.nextStr (d := 8) (b := b1) (pos := x8) (s := a0) (by kernel_rfl) hI hb9 ?_)
      intro w hI
      refine OpsT.pures (r := []) [1] [0, 3, 7, 8, 9] (S' := [(0, .string a0), (3, .slice A6 x5.length cp7), (7, .pointer (some ⟨b1, 0, none⟩)), (8, .tuple #[.bool true, .int .i64 (x8 : Int), .int .i32 (runeAt a0 x8)]), (9, .bool true)]) (by kernel_rfl) ?_
      refine OpsT.done ?_
      refine Qn.then ?_
      refine CodT.seq ?_
      refine CodT.yes (by kernel_rfl) ?_
      refine CodT.skip ?_
      refine Qn.then ?_
      refine CodT.block ?_
      refine CodT.seq ?_
      refine CodT.regionL [0, 1, 2, 3] (by kernel_rfl) ?_
      refine OpsT.pures (r := []) [0, 1, 2, 3] [0, 3, 4, 5, 7] (S' := [(0, .string a0), (3, .slice A6 x5.length cp7), (4, .int .i64 (x8 : Int)), (5, .int .i32 (runeAt a0 x8)), (7, .pointer (some ⟨b1, 0, none⟩))]) (by kernel_rfl) ?_
      refine OpsT.done ?_
      refine Qn.then ?_
      obtain ⟨r2, h2, h1⟩ := bindS h1
      refine CodT.meet (fun a w => ∃ (x10 : Int), x10 = r2 ∧ Fr 26 [(0, .string a0), (3, .slice A6 x5.length cp7), (5, .int .i32 x10), (7, .pointer (some ⟨b1, 0, none⟩))] a ∧ Inv w0 Z w (star (pt b1 (.stringIter a0 (x8 + runeW a0 x8))) (star (ownS 21 (cI .i32) 1 A6 cp7 x5) A))) ?_ ?_
      ·
        refine CodT.seq ?_
        refine CodT.regionL [0, 1, 2, 3] (by kernel_rfl) ?_
        refine OpsT.pures (r := [3]) [0, 1, 2] [0, 3, 4, 5, 7, 12, 13, 14] (S' := [(0, .string a0), (3, .slice A6 x5.length cp7), (4, .int .i64 (x8 : Int)), (5, .int .i32 (runeAt a0 x8)), (7, .pointer (some ⟨b1, 0, none⟩)), (12, .string a0), (13, .int .i64 (x8 : Int)), (14, .int .i32 (runeAt a0 x8))]) (by kernel_rfl) ?_
        obtain ⟨y12, hc11, h2⟩ := bindS h2
        try dsimp only at h2
        refine OpsT.cons (Does.call (d := some 15) (n := 25) (vs := [.string a0, .int .i64 (x8 : Int), .int .i32 (runeAt a0 x8)]) (by kernel_rfl) en25 (c25 w0 w _ _ hI hT a0 (x8 : Int) (runeAt a0 x8) _ hc11) ?_)
        rintro e w ⟨rfl, hI⟩
        refine ⟨_, rfl, ?_⟩
        refine OpsT.done ?_
        refine Qn.then ?_
        by_cases hb13 : y12 = true
        · rw [if_pos hb13] at h2
          refine CodT.yes' (b := y12) (by kernel_rfl) hb13 ?_
          refine CodT.regionL [0, 1, 2, 3, 4, 5] (by kernel_rfl) ?_
          refine OpsT.pures (r := [2, 3, 4, 5]) [0, 1] [0, 3, 7, 16, 17] (S' := [(0, .string a0), (3, .slice A6 x5.length cp7), (7, .pointer (some ⟨b1, 0, none⟩)), (16, .string a0), (17, .int .i64 (x8 : Int))]) (by kernel_rfl) ?_
          obtain ⟨hg14, h2⟩ := guardS h2
          refine OpsT.cons (Does.yi (Yl.indexStr (d := 18) (T := 9) (k := .i64) (j := (x8 : Int)) (s := a0) (by kernel_rfl) Go.Proofs.Tryd.underlying9 hg14.1 hg14.2) hI ?_)
          refine OpsT.pures (r := []) [3, 4, 5] [0, 3, 5, 7] (S' := [(0, .string a0), (3, .slice A6 x5.length cp7), (5, .int .i32 (wi32 (1114112 + (wi32 (bt a0 (x8 : Int)))))), (7, .pointer (some ⟨b1, 0, none⟩))]) (by kernel_rfl) ?_
          refine OpsT.done ?_
          have e := someS h2
          subst e
          exact Qn.thenJ fun a ha => ⟨wi32 (1114112 + (wi32 (bt a0 (x8 : Int)))), rfl, ha.keep [0, 3, 5, 7] (by kernel_rfl), hI⟩
        · rw [if_neg hb13] at h2
          refine CodT.no' (b := y12) (by kernel_rfl) (by simpa using hb13) ?_
          refine CodT.skip ?_
          have e := someS h2
          subst e
          exact Qn.thenJ fun a ha => ⟨runeAt a0 x8, rfl, ha.keep [0, 3, 5, 7] (by kernel_rfl), hI⟩
      ·
        rintro a w ⟨x10, rfl, ha, hI⟩
        try dsimp only at h1
        refine CodT.of ?_ ha
        refine CodT.regionL [0, 1, 2, 3, 4] (by kernel_rfl) ?_
        refine OpsT.pures (r := [2, 3, 4]) [0, 1] [0, 7, 21, 22] (S' := [(0, .string a0), (7, .pointer (some ⟨b1, 0, none⟩)), (21, .slice A6 x5.length cp7), (22, .int .i32 x10)]) (by kernel_rfl) ?_
        refine OpsT.cons (Does.buildSlice (en := (cI .i32)) (d := 23) (n := 1) (T := 52) (ps := [(0, .int .i32 x10)]) ([x10] : List Int) (by kernel_rfl) Go.Proofs.Tryd.underlying52 ty21 (by kernel_rfl) (by kernel_rfl) (by kernel_rfl) (by kernel_rfl) (len_all (fun _ => rfl)) hI ?_)
        intro b15 w hI
        obtain ⟨hg16, h1⟩ := guardS h1
        have hI := hI.mono (pick3 _ _ _ _)
        refine OpsT.cons (Does.append (d := 24) (t := 52) (tx := 52) (ty := 52) (ys := x5) (zs := ([x10] : List Int)) (x := .slice (some ⟨b15, 0, none⟩) (([x10] : List Int).length) 1) (by kernel_rfl) Go.Proofs.Tryd.underlying52 ty21 (by kernel_rfl) hI (src_own Go.Proofs.Tryd.underlying52 (hI.mono (pick2 _ _ _)) (one_flat _ (fun _ => rfl))) (ownS_facts (hI.mono (pick2 _ _ _))).2.2 (by unfold LIM at hg16; omega) hg16 ?_)
        intro A17 cp18 w hI
        refine OpsT.pures (r := []) [4] [0, 3, 7] (S' := [(0, .string a0), (3, .slice A17 ((x5 ++ ([x10] : List Int)).length) cp18), (7, .pointer (some ⟨b1, 0, none⟩))]) (by kernel_rfl) ?_
        refine OpsT.done ?_
        refine Qn.block_normal ?_
        have hI := hI.mono (pick2 _ _ _)
        have hI := hI.drop
        exact Qn.thenJ fun a ha => ⟨k, Nat.lt_succ_self k, x5 ++ ([x10] : List Int), x8 + runeW a0 x8, A17, cp18, h1, ha.keep [0, 3, 7] (by kernel_rfl), hI⟩
    · rw [if_neg hb9] at h1
      refine OpsT.cons (Does.nextEnd (d := 8) (b := b1) (pos := x8) (s := a0) (by kernel_rfl) hI hb9 ?_)
      refine OpsT.pures (r := []) [1] [0, 3, 7, 8, 9] (S' := [(0, .string a0), (3, .slice A6 x5.length cp7), (7, .pointer (some ⟨b1, 0, none⟩)), (8, .tuple #[.bool false]), (9, .bool false)]) (by kernel_rfl) ?_
      refine OpsT.done ?_
      refine Qn.then ?_
      refine CodT.seq ?_
      refine CodT.no (by kernel_rfl) ?_
      refine CodT.exit ?_
      refine Qn.exit_then ?_
      refine Qn.exit_then ?_
      refine Qn.block ?_
      have hI := hI.drop
      have e := someS h1
      subst e
      exact Qn.thenJ fun a ha => ⟨x5, A6, cp7, rfl, ha.keep [3] (by kernel_rfl), hI⟩
  ·
    rintro a w ⟨x2, A3, cp4, rfl, ha, hI⟩
    try dsimp only at h0
    refine Qn.of ?_ ha
    refine Qn.then ?_
    refine CodT.seq ?_
    refine CodT.regionL [0, 1] (by kernel_rfl) ?_
    refine OpsT.pures (r := []) [0, 1] [2] (S' := [(2, .slice A3 x2.length cp4)]) (by kernel_rfl) ?_
    refine OpsT.done ?_
    refine Qn.then ?_
    refine CodT.ret ?_
    have e := someS h0
    subst e
    refine Qn.keep [2] (S' := [(2, .slice A3 x2.length cp4)]) (by kernel_rfl) ?_
    exact post_ret (v := .slice A3 x2.length cp4) (fun a ha => RunRes.run (vs := [.slice A3 x2.length cp4]) (.tmp (t := 2) (by kernel_rfl) .nil) ha (by kernel_rfl)) ⟨A3, cp4, rfl, hI⟩
set_option maxRecDepth 100000 in
set_option maxHeartbeats 4000000 in
/-- cenotaph/name.Less -/
theorem c14 (w0 w : World) (Z : Hp) (A : HP) (hI : Inv w0 Z w A) (hT : Tabs Z) (a0 : ByteArray) (a1 : ByteArray) (r : Bool) (h0 : name_Less a0 a1 = some r) :
    Calls prog 14 #[.string a0, .string a1] w (fun e w' => e = .returned (.bool r) ∧ Inv w0 Z w' A) := by
  have e4 := calls_intro (R := (fun e w' => e = .returned (.bool r) ∧ Inv w0 Z w' A)) (w := w) (args := [.string a0, .string a1]) (fn := Go.Proofs.Tryd.f14) 42 Go.Proofs.Tryd.func14 (by rfl) Go.Proofs.Tryd.ntmps14 (by kernel_rfl)
  refine e4 ?_
  clear e4
  unfold name_Less at h0
  refine CodT.seq ?_
  refine CodT.regionL [0] (by kernel_rfl) ?_
  refine OpsT.pures (r := []) [0] [0, 1] (S' := [(0, .string a0), (1, .string a1)]) (by kernel_rfl) ?_
  refine OpsT.done ?_
  refine Qn.then ?_
  refine CodT.seq ?_
  refine CodT.regionL [0, 1, 2, 3, 4, 5] (by kernel_rfl) ?_
  refine OpsT.pures (r := [1, 2, 3, 4, 5]) [0] [1, 9] (S' := [(1, .string a1), (9, .string a0)]) (by kernel_rfl) ?_
  obtain ⟨y2, hc1, h0⟩ := bindS h0
  try dsimp only at h0
  refine OpsT.cons (Does.call (d := some 10) (n := 27) (vs := [.string a0]) (by kernel_rfl) en27 (c27 w0 w _ _ hI hT a0 _ hc1) ?_)
  rintro e w ⟨A3, cp4, rfl, hI⟩
  refine ⟨_, rfl, ?_⟩
  refine OpsT.pures (r := [3, 4, 5]) [2] [10, 11] (S' := [(10, .slice A3 y2.length cp4), (11, .string a1)]) (by kernel_rfl) ?_
  obtain ⟨y6, hc5, h0⟩ := bindS h0
  try dsimp only at h0
  refine OpsT.cons (Does.call (d := some 12) (n := 27) (vs := [.string a1]) (by kernel_rfl) en27 (c27 w0 w _ _ hI hT a1 _ hc5) ?_)
  rintro e w ⟨A7, cp8, rfl, hI⟩
  refine ⟨_, rfl, ?_⟩
  refine OpsT.pures (r := []) [4, 5] [5, 6] (S' := [(5, .slice A3 y2.length cp4), (6, .slice A7 y6.length cp8)]) (by kernel_rfl) ?_
  refine OpsT.done ?_
  refine Qn.then ?_
  refine CodT.seq ?_
  refine CodT.seq ?_
  refine CodT.regionL [0, 1, 2] (by kernel_rfl) ?_
  refine OpsT.pures (r := []) [0, 1, 2] [5, 6, 13, 14, 15] (S' := [(5, .slice A3 y2.length cp4), (6, .slice A7 y6.length cp8), (13, .slice A3 y2.length cp4), (14, .int .i64 (y2.length : Int)), (15, .int .i64 0)]) (by kernel_rfl) ?_
  refine OpsT.done ?_
  refine Qn.then ?_
  obtain ⟨r1, h1, h0⟩ := bindS h0
  refine CodT.meet1 (fun a w => .inr () = r1 ∧ Fr 42 [(5, .slice A3 y2.length cp4), (6, .slice A7 y6.length cp8)] a ∧ Inv w0 Z w (star (ownS 21 (cI .i32) 1 A7 cp8 y6) (star (ownS 21 (cI .i32) 1 A3 cp4 y2) A))) ?_ ?_
  ·
    refine CodT.block ?_
    refine (fun a ha => wp_loopN (fun k a w => ∃ (x9 : Int), name_Less.l0 y2 y6 k x9 = some r1 ∧ Fr 42 [(5, .slice A3 y2.length cp4), (6, .slice A7 y6.length cp8), (13, .slice A3 y2.length cp4), (14, .int .i64 (y2.length : Int)), (15, .int .i64 x9)] a ∧ Inv w0 Z w (star (ownS 21 (cI .i32) 1 A7 cp8 y6) (star (ownS 21 (cI .i32) 1 A3 cp4 y2) A))) ?_ FU a w ⟨0, h1, ha.keep [5, 6, 13, 14, 15] (by kernel_rfl), hI⟩)
    clear h1 hI
    rintro k a w ⟨x9, h1, ha, hI⟩
    rcases k with _ | k
    · cases h1
    simp only [name_Less.l0] at h1
    refine CodT.of ?_ ha
    refine CodT.seq ?_
    refine CodT.regionL [0] (by kernel_rfl) ?_
    refine OpsT.pures (r := []) [0] [5, 6, 13, 14, 15, 16] (S' := [(5, .slice A3 y2.length cp4), (6, .slice A7 y6.length cp8), (13, .slice A3 y2.length cp4), (14, .int .i64 (y2.length : Int)), (15, .int .i64 x9), (16, .bool (decide (x9 < (y2.length : Int))))]) (by kernel_rfl) ?_
    refine OpsT.done ?_
    refine Qn.then ?_
    refine CodT.seq ?_
    by_cases hb10 : (decide (x9 < (y2.length : Int))) = true
    · rw [if_pos hb10] at h1
      refine CodT.yes' (b := decide (x9 < (y2.length : Int))) (by kernel_rfl) hb10 ?_
      refine CodT.skip ?_
      refine Qn.then ?_
      refine CodT.seq ?_
      refine CodT.block ?_
      refine CodT.seq ?_
      refine CodT.regionL [0, 1, 2, 3, 4] (by kernel_rfl) ?_
      refine OpsT.pures (r := [1, 2, 3, 4]) [0] [5, 6, 13, 14, 15, 17] (S' := [(5, .slice A3 y2.length cp4), (6, .slice A7 y6.length cp8), (13, .slice A3 y2.length cp4), (14, .int .i64 (y2.length : Int)), (15, .int .i64 x9), (17, .int .i64 x9)]) (by kernel_rfl) ?_
      obtain ⟨hg11, h1⟩ := guardS h1
      obtain ⟨g12, hA13, hr14, hl15⟩ := ownS_get (hI.mono (pick2 _ _ _)) hg11.1 hg11.2
      refine OpsT.cons (Does.yi (Yl.indexSlice (d := 18) (T := 52) (cc := cp4) (k := .i64) (j := x9) (g := g12) (o := 0) (by kernel_rfl) Go.Proofs.Tryd.underlying52 ty21 hA13 hg11.1 hg11.2) hI ?_)
      refine OpsT.cons (Does.yi (Yl.load (d := 19) (T := 21) (v := .int .i32 (gt y2 x9)) (by kernel_rfl) (ldR ty21 (v := .int .i32 (gt y2 x9)) 0 (fun w hC => hr14 w0 w _ (hC.mono (pick2 _ _ _))) (by kernel_rfl))) hI ?_)
      refine OpsT.pures (r := []) [3, 4] [5, 6, 7, 8, 13, 14, 15] (S' := [(5, .slice A3 y2.length cp4), (6, .slice A7 y6.length cp8), (7, .int .i64 x9), (8, .int .i32 (gt y2 x9)), (13, .slice A3 y2.length cp4), (14, .int .i64 (y2.length : Int)), (15, .int .i64 x9)]) (by kernel_rfl) ?_
      refine OpsT.done ?_
      refine Qn.then ?_
      refine CodT.seq ?_
      refine CodT.seq ?_
      refine CodT.regionL [0, 1, 2, 3] (by kernel_rfl) ?_
      refine OpsT.pures (r := []) [0, 1, 2, 3] [5, 6, 7, 8, 13, 14, 15, 23] (S' := [(5, .slice A3 y2.length cp4), (6, .slice A7 y6.length cp8), (7, .int .i64 x9), (8, .int .i32 (gt y2 x9)), (13, .slice A3 y2.length cp4), (14, .int .i64 (y2.length : Int)), (15, .int .i64 x9), (23, .bool (decide (x9 ≥ (y6.length : Int))))]) (by kernel_rfl) ?_
      refine OpsT.done ?_
      refine Qn.then ?_
      by_cases hb16 : (decide (x9 ≥ (y6.length : Int))) = true
      · rw [if_pos hb16] at h1
        refine CodT.yes' (b := decide (x9 ≥ (y6.length : Int))) (by kernel_rfl) hb16 ?_
        refine CodT.seq ?_
        refine CodT.regionL [0] (by kernel_rfl) ?_
        refine OpsT.pures (r := []) [0] [4] (S' := [(4, .bool false)]) (by kernel_rfl) ?_
        refine OpsT.done ?_
        refine Qn.then ?_
        refine CodT.ret ?_
        refine Qn.ret_then ?_
        refine Qn.block_ret ?_
        refine Qn.ret_then ?_
        refine Qn.ret_then ?_
        refine Qn.block_ret ?_
        refine Qn.ret_then ?_
        refine Qn.ret_then ?_
        have hI := hI.drop
        have hI := hI.drop
        have e := someS h1
        subst e
        try dsimp only at h0
        have e := someS h0
        subst e
        refine Qn.keep [4] (S' := [(4, .bool false)]) (by kernel_rfl) ?_
        exact post_ret (v := .bool false) (fun a ha => RunRes.run (vs := [.bool false]) (.tmp (t := 4) (by kernel_rfl) .nil) ha (by kernel_rfl)) ⟨rfl, hI⟩
      · rw [if_neg hb16] at h1
        refine CodT.no' (b := decide (x9 ≥ (y6.length : Int))) (by kernel_rfl) (by simpa using hb16) ?_
        refine CodT.skip ?_
        refine Qn.then ?_
        refine CodT.seq ?_
        refine CodT.regionL [0, 1, 2, 3, 4, 5] (by kernel_rfl) ?_
        refine OpsT.pures (r := [3, 4, 5]) [0, 1, 2] [5, 6, 7, 8, 13, 14, 15, 24, 25, 26] (S' := [(5, .slice A3 y2.length cp4), (6, .slice A7 y6.length cp8), (7, .int .i64 x9), (8, .int .i32 (gt y2 x9)), (13, .slice A3 y2.length cp4), (14, .int .i64 (y2.length : Int)), (15, .int .i64 x9), (24, .int .i32 (gt y2 x9)), (25, .slice A7 y6.length cp8), (26, .int .i64 x9)]) (by kernel_rfl) ?_
        obtain ⟨hg17, h1⟩ := guardS h1
        obtain ⟨g18, hA19, hr20, hl21⟩ := ownS_get hI hg17.1 hg17.2
        refine OpsT.cons (Does.yi (Yl.indexSlice (d := 27) (T := 52) (cc := cp8) (k := .i64) (j := x9) (g := g18) (o := 0) (by kernel_rfl) Go.Proofs.Tryd.underlying52 ty21 hA19 hg17.1 hg17.2) hI ?_)
        refine OpsT.cons (Does.yi (Yl.load (d := 28) (T := 21) (v := .int .i32 (gt y6 x9)) (by kernel_rfl) (ldR ty21 (v := .int .i32 (gt y6 x9)) 0 (fun w hC => hr20 w0 w _ hC) (by kernel_rfl))) hI ?_)
        refine OpsT.pures (r := []) [5] [5, 6, 7, 8, 13, 14, 15, 29] (S' := [(5, .slice A3 y2.length cp4), (6, .slice A7 y6.length cp8), (7, .int .i64 x9), (8, .int .i32 (gt y2 x9)), (13, .slice A3 y2.length cp4), (14, .int .i64 (y2.length : Int)), (15, .int .i64 x9), (29, .bool ((gt y2 x9) != (gt y6 x9)))]) (by kernel_rfl) ?_
        refine OpsT.done ?_
        refine Qn.then ?_
        by_cases hb22 : ((gt y2 x9) != (gt y6 x9)) = true
        · rw [if_pos hb22] at h1
          refine CodT.yes' (b := (gt y2 x9) != (gt y6 x9)) (by kernel_rfl) hb22 ?_
          refine CodT.seq ?_
          refine CodT.regionL [0, 1, 2, 3, 4, 5, 6] (by kernel_rfl) ?_
          refine OpsT.pures (r := [3, 4, 5, 6]) [0, 1, 2] [30, 31, 32] (S' := [(30, .int .i32 (gt y2 x9)), (31, .slice A7 y6.length cp8), (32, .int .i64 x9)]) (by kernel_rfl) ?_
          obtain ⟨hg23, h1⟩ := guardS h1
          obtain ⟨g24, hA25, hr26, hl27⟩ := ownS_get hI hg23.1 hg23.2
          refine OpsT.cons (Does.yi (Yl.indexSlice (d := 33) (T := 52) (cc := cp8) (k := .i64) (j := x9) (g := g24) (o := 0) (by kernel_rfl) Go.Proofs.Tryd.underlying52 ty21 hA25 hg23.1 hg23.2) hI ?_)
          refine OpsT.cons (Does.yi (Yl.load (d := 34) (T := 21) (v := .int .i32 (gt y6 x9)) (by kernel_rfl) (ldR ty21 (v := .int .i32 (gt y6 x9)) 0 (fun w hC => hr26 w0 w _ hC) (by kernel_rfl))) hI ?_)
          refine OpsT.pures (r := []) [5, 6] [4] (S' := [(4, .bool (decide ((gt y2 x9) < (gt y6 x9))))]) (by kernel_rfl) ?_
          refine OpsT.done ?_
          refine Qn.then ?_
          refine CodT.ret ?_
          refine Qn.block_ret ?_
          refine Qn.ret_then ?_
          refine Qn.ret_then ?_
          refine Qn.block_ret ?_
          refine Qn.ret_then ?_
          refine Qn.ret_then ?_
          have hI := hI.drop
          have hI := hI.drop
          have e := someS h1
          subst e
          try dsimp only at h0
          have e := someS h0
          subst e
          refine Qn.keep [4] (S' := [(4, .bool (decide ((gt y2 x9) < (gt y6 x9))))]) (by kernel_rfl) ?_
          exact post_ret (v := .bool (decide ((gt y2 x9) < (gt y6 x9)))) (fun a ha => RunRes.run (vs := [.bool (decide ((gt y2 x9) < (gt y6 x9)))]) (.tmp (t := 4) (by kernel_rfl) .nil) ha (by kernel_rfl)) ⟨rfl, hI⟩
        · rw [if_neg hb22] at h1
          refine CodT.no' (b := (gt y2 x9) != (gt y6 x9)) (by kernel_rfl) (by simpa using hb22) ?_
          refine CodT.skip ?_
          refine Qn.block_normal ?_
          refine Qn.then ?_
          refine CodT.regionL [0, 1] (by kernel_rfl) ?_
          refine OpsT.pures (r := []) [0, 1] [5, 6, 13, 14, 15] (S' := [(5, .slice A3 y2.length cp4), (6, .slice A7 y6.length cp8), (13, .slice A3 y2.length cp4), (14, .int .i64 (y2.length : Int)), (15, .int .i64 (wi64 (x9 + 1)))]) (by kernel_rfl) ?_
          refine OpsT.done ?_
          exact Qn.thenJ fun a ha => ⟨k, Nat.lt_succ_self k, wi64 (x9 + 1), h1, ha.keep [5, 6, 13, 14, 15] (by kernel_rfl), hI⟩
    · rw [if_neg hb10] at h1
      refine CodT.no' (b := decide (x9 < (y2.length : Int))) (by kernel_rfl) (by simpa using hb10) ?_
      refine CodT.exit ?_
      refine Qn.exit_then ?_
      refine Qn.exit_then ?_
      refine Qn.block ?_
      have e := someS h1
      subst e
      exact Qn.thenJ fun a ha => ⟨rfl, ha.keep [5, 6] (by kernel_rfl), hI⟩
  ·
    rintro a w ⟨rfl, ha, hI⟩
    try dsimp only at h0
    refine Qn.of ?_ ha
    refine Qn.then ?_
    refine CodT.seq ?_
    refine CodT.regionL [0, 1, 2, 3, 4, 5] (by kernel_rfl) ?_
    refine OpsT.pures (r := []) [0, 1, 2, 3, 4, 5] [4] (S' := [(4, .bool (decide ((y2.length : Int) < (y6.length : Int))))]) (by kernel_rfl) ?_
    refine OpsT.done ?_
    refine Qn.then ?_
    refine CodT.ret ?_
    have hI := hI.drop
    have hI := hI.drop
    have e := someS h0
    subst e
    refine Qn.keep [4] (S' := [(4, .bool (decide ((y2.length : Int) < (y6.length : Int))))]) (by kernel_rfl) ?_
    exact post_ret (v := .bool (decide ((y2.length : Int) < (y6.length : Int)))) (fun a ha => RunRes.run (vs := [.bool (decide ((y2.length : Int) < (y6.length : Int)))]) (.tmp (t := 4) (by kernel_rfl) .nil) ha (by kernel_rfl)) ⟨rfl, hI⟩
end Go.Cen
