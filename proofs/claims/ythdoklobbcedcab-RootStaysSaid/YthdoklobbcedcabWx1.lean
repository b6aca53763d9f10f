/- That the machine computes these: walks, printed by a program of ours. -/
import Derived.Test.YthdoklobbcedcabPx
import Derived.Test.YthdoklobbcedcabWx0
set_option linter.unusedVariables false
set_option linter.unusedSimpArgs false
namespace Go.Cen
set_option maxRecDepth 100000 in
set_option maxHeartbeats 4000000 in
/-- cenotaph/root.put[cenotaph/root.Entry] -/
theorem c60 (w0 w : World) (Z : Hp) (A : HP) (hI : Inv w0 Z w A) (A_a0 : Option Addr) (c_a0 : Nat) (a0 : (List RootEntry)) (hr_a0 : RdS Z c_RootEntry 4 A_a0 c_a0 a0) (a1 : RootEntry) (r : (List RootEntry)) (h0 : root_put_rootEntry__root_logic a0 a1 = some r) :
    Calls prog 60 #[.slice A_a0 a0.length c_a0, .agg (c_RootEntry a1).toArray, .func (.func 42) #[] #[]] w (fun e w' => ∃ (A1 : Option Addr) (c1 : Nat), e = .returned (.slice A1 r.length c1) ∧ Inv w0 Z w' (star (ownS 47 c_RootEntry 4 A1 c1 r) A)) := by
  have e4 := calls_intro (R := (fun e w' => ∃ (A1 : Option Addr) (c1 : Nat), e = .returned (.slice A1 r.length c1) ∧ Inv w0 Z w' (star (ownS 47 c_RootEntry 4 A1 c1 r) A))) (w := w) (args := [.slice A_a0 a0.length c_a0, .agg (c_RootEntry a1).toArray, .func (.func 42) #[] #[]]) (fn := Go.Proofs.Try.f60) 41 Go.Proofs.Try.func60 (by rfl) Go.Proofs.Try.ntmps60 (by kernel_rfl)
  refine e4 ?_
  clear e4
  unfold root_put_rootEntry__root_logic at h0
  refine CodT.seq ?_
  refine CodT.regionL [0, 1, 2] (by kernel_rfl) ?_
  refine OpsT.cons (Does.boxL (d := 4) (T := 47) (v := .agg (c_RootEntry a1).toArray) (c_RootEntry a1) (by kernel_rfl) hI (by kernel_rfl) ?_)
  intro b1 w hI
  refine OpsT.cons (Does.boxL (d := 5) (T := 77) (v := .func (.func 42) #[] #[]) (([.func (.func 42) #[] #[]] : List Value)) (by kernel_rfl) hI (by kernel_rfl) ?_)
  intro b2 w hI
  refine OpsT.pures (r := []) [2] [0, 4, 5] (S' := [(0, .slice A_a0 a0.length c_a0), (4, .pointer (some ⟨b1, 0, none⟩)), (5, .pointer (some ⟨b2, 0, none⟩))]) (by kernel_rfl) ?_
  refine OpsT.done ?_
  refine Qn.then ?_
  refine CodT.seq ?_
  refine CodT.regionL [0, 1, 2, 3, 4] (by kernel_rfl) ?_
  refine OpsT.cons (Does.yi (Yl.load (d := 12) (T := 77) (v := .func (.func 42) #[] #[]) (by kernel_rfl) (ldB ty77 (l := ([.func (.func 42) #[] #[]] : List Value)) (o := 0) (v := .func (.func 42) #[] #[]) (ent_refl _) (by kernel_rfl))) hI ?_)
  refine OpsT.cons (Does.yi (Yl.load (d := 13) (T := 47) (v := .agg (c_RootEntry a1).toArray) (by kernel_rfl) (ldBN ty47 (l := c_RootEntry a1) (o := 0) (cs := c_RootEntry a1) (pick2 _ _ _) (by kernel_rfl) (whole _ _ (by kernel_rfl)))) hI ?_)
  obtain ⟨y4, hc3, h0⟩ := bindS h0
  try dsimp only at h0
  refine OpsT.cons (Does.call (d := some 14) (n := 42) (vs := [.agg (c_RootEntry a1).toArray]) (by kernel_rfl) en42 (c42 w0 w _ _ hI a1 _ hc3) ?_)
  rintro e w ⟨rfl, hI⟩
  refine ⟨_, rfl, ?_⟩
  refine OpsT.cons (Does.allocL (d := 7) (T := 3) (([.int .i64 0] : List Value)) (by kernel_rfl) ty3 hI (by kernel_rfl) ?_)
  intro b5 w hI
  refine OpsT.cons (Does.storeLit (T := 3) (b := b5) (o := 0) (v := .int .i64 y4) (l := ([.int .i64 0] : List Value)) (vs := ([.int .i64 y4] : List Value)) (L' := ([.int .i64 y4] : List Value)) (by kernel_rfl) ty3 hI (by kernel_rfl) (by kernel_rfl) (by kernel_rfl) (by kernel_rfl) (by kernel_rfl) ?_)
  intro w hI
  refine OpsT.done ?_
  refine Qn.then ?_
  refine CodT.seq ?_
  have hI := hI.mono (pick2 _ _ _)
  obtain ⟨Z6, hle7, hz8, hI⟩ := pt_freeze hI
  obtain ⟨Z9, hle10, hz11, hI⟩ := pt_freeze hI
  refine CodT.regionL [0, 1, 2, 3] (by kernel_rfl) ?_
  refine OpsT.pures (r := [2, 3]) [0, 1] [0, 4, 5, 7, 15, 16] (S' := [(0, .slice A_a0 a0.length c_a0), (4, .pointer (some ⟨b1, 0, none⟩)), (5, .pointer (some ⟨b2, 0, none⟩)), (7, .pointer (some ⟨b5, 0, none⟩)), (15, .slice A_a0 a0.length c_a0), (16, .func (.func 83) #[] #[.pointer (some ⟨b2, 0, none⟩), .pointer (some ⟨b5, 0, none⟩)])]) (by kernel_rfl) ?_
  obtain ⟨y13, hc12, h0⟩ := bindS h0
  try dsimp only at h0
  refine OpsT.cons (Does.call (d := some 17) (n := 65) (vs := [.slice A_a0 a0.length c_a0, .func (.func 83) #[] #[.pointer (some ⟨b2, 0, none⟩), .pointer (some ⟨b5, 0, none⟩)]]) (by kernel_rfl) en65 (c65_2 w0 w _ _ hI A_a0 c_a0 a0 (hr_a0.mono (Hp.le_trans hle7 hle10)) b2 (hle10 _ _ hz8) b5 y4 hz11 _ hc12) ?_)
  rintro e w ⟨rfl, hI⟩
  refine ⟨_, rfl, ?_⟩
  refine OpsT.pures (r := []) [3] [0, 4, 5, 7, 8] (S' := [(0, .slice A_a0 a0.length c_a0), (4, .pointer (some ⟨b1, 0, none⟩)), (5, .pointer (some ⟨b2, 0, none⟩)), (7, .pointer (some ⟨b5, 0, none⟩)), (8, .int .i64 y13)]) (by kernel_rfl) ?_
  refine OpsT.done ?_
  refine Qn.then ?_
  obtain ⟨r1, h1, h0⟩ := bindS h0
  refine CodT.meet (fun a w => ∃ (x14 : Int), x14 = r1 ∧ Fr 41 [(0, .slice A_a0 a0.length c_a0), (4, .pointer (some ⟨b1, 0, none⟩)), (5, .pointer (some ⟨b2, 0, none⟩)), (7, .pointer (some ⟨b5, 0, none⟩)), (8, .int .i64 x14)] a ∧ Inv w0 Z9 w (star (pt b1 (.cells (c_RootEntry a1).toArray 47 (0, 0))) A)) ?_ ?_
  ·
    refine CodT.seq ?_
    refine CodT.regionL [0, 1] (by kernel_rfl) ?_
    refine OpsT.pures (r := []) [0, 1] [0, 4, 5, 7, 8, 19] (S' := [(0, .slice A_a0 a0.length c_a0), (4, .pointer (some ⟨b1, 0, none⟩)), (5, .pointer (some ⟨b2, 0, none⟩)), (7, .pointer (some ⟨b5, 0, none⟩)), (8, .int .i64 y13), (19, .bool (decide (y13 < 0)))]) (by kernel_rfl) ?_
    refine OpsT.done ?_
    refine Qn.then ?_
    by_cases hb15 : (decide (y13 < 0)) = true
    · rw [if_pos hb15] at h1
      refine CodT.yes' (b := decide (y13 < 0)) (by kernel_rfl) hb15 ?_
      refine CodT.regionL [0, 1, 2] (by kernel_rfl) ?_
      refine OpsT.pures (r := []) [0, 1, 2] [0, 4, 5, 7, 8] (S' := [(0, .slice A_a0 a0.length c_a0), (4, .pointer (some ⟨b1, 0, none⟩)), (5, .pointer (some ⟨b2, 0, none⟩)), (7, .pointer (some ⟨b5, 0, none⟩)), (8, .int .i64 (a0.length : Int))]) (by kernel_rfl) ?_
      refine OpsT.done ?_
      have e := someS h1
      subst e
      exact Qn.thenJ fun a ha => ⟨(a0.length : Int), rfl, ha.keep [0, 4, 5, 7, 8] (by kernel_rfl), hI⟩
    · rw [if_neg hb15] at h1
      refine CodT.no' (b := decide (y13 < 0)) (by kernel_rfl) (by simpa using hb15) ?_
      refine CodT.skip ?_
      have e := someS h1
      subst e
      exact Qn.thenJ fun a ha => ⟨y13, rfl, ha.keep [0, 4, 5, 7, 8] (by kernel_rfl), hI⟩
  ·
    rintro a w ⟨x14, rfl, ha, hI⟩
    try dsimp only at h0
    refine CodT.of ?_ ha
    refine CodT.seq ?_
    refine CodT.regionL [0, 1] (by kernel_rfl) ?_
    refine OpsT.pures (r := []) [0, 1] [0, 4, 8, 9] (S' := [(0, .slice A_a0 a0.length c_a0), (4, .pointer (some ⟨b1, 0, none⟩)), (8, .int .i64 x14), (9, .func (.func 85) #[] #[.pointer (some ⟨b2, 0, none⟩), .pointer (some ⟨b5, 0, none⟩)])]) (by kernel_rfl) ?_
    refine OpsT.done ?_
    refine Qn.then ?_
    refine CodT.seq ?_
    refine CodT.regionL [0, 1, 2, 3, 4, 5, 6] (by kernel_rfl) ?_
    refine OpsT.pures (r := [2, 3, 4, 5, 6]) [0, 1] [0, 4, 8, 9, 23, 24] (S' := [(0, .slice A_a0 a0.length c_a0), (4, .pointer (some ⟨b1, 0, none⟩)), (8, .int .i64 x14), (9, .func (.func 85) #[] #[.pointer (some ⟨b2, 0, none⟩), .pointer (some ⟨b5, 0, none⟩)]), (23, .slice A_a0 a0.length c_a0), (24, .int .i64 x14)]) (by kernel_rfl) ?_
    obtain ⟨hg16, h0⟩ := guardS h0
    have hf22 := (hr_a0.mono (Hp.le_trans hle7 hle10))
    have hr19 := RdS.sub hf22 hg16
    obtain ⟨A17, hA20⟩ : ∃ x, subA A_a0 c_a0 0 4 = x := ⟨_, rfl⟩
    obtain ⟨cp18, hc21⟩ : ∃ x, c_a0 - (0 : Int).toNat = x := ⟨_, rfl⟩
    rw [hA20, hc21] at hr19
    refine OpsT.cons (Does.yi (Yl.sub (lo := none) (hi := (some (.int .i64 x14))) (d := 25) (T := 22) (a := 0) (b := x14) (by kernel_rfl) Go.Proofs.Try.underlying22 ty47 (.inr ⟨rfl, rfl⟩) (.inl ⟨_, rfl⟩) hg16 hf22.1 (sub_length _ hg16) hA20 hc21) hI ?_)
    obtain ⟨y24, hc23, h0⟩ := bindS h0
    try dsimp only at h0
    refine OpsT.cons (Does.call (d := some 26) (n := 62) (vs := [.slice A17 ((sub a0 0 x14).length) cp18]) (by kernel_rfl) en62 (c62 w0 w _ _ hI A17 cp18 (sub a0 0 x14) hr19 _ hc23) ?_)
    rintro e w ⟨A25, cp26, rfl, hI⟩
    refine ⟨_, rfl, ?_⟩
    refine OpsT.pures (r := [5, 6]) [4] [0, 4, 8, 9, 26, 27] (S' := [(0, .slice A_a0 a0.length c_a0), (4, .pointer (some ⟨b1, 0, none⟩)), (8, .int .i64 x14), (9, .func (.func 85) #[] #[.pointer (some ⟨b2, 0, none⟩), .pointer (some ⟨b5, 0, none⟩)]), (26, .slice A25 y24.length cp26), (27, .func (.func 85) #[] #[.pointer (some ⟨b2, 0, none⟩), .pointer (some ⟨b5, 0, none⟩)])]) (by kernel_rfl) ?_
    obtain ⟨y28, hc27, h0⟩ := bindS h0
    try dsimp only at h0
    refine OpsT.cons (Does.call (d := some 28) (n := 61) (vs := [.slice A25 y24.length cp26, .func (.func 85) #[] #[.pointer (some ⟨b2, 0, none⟩), .pointer (some ⟨b5, 0, none⟩)]]) (by kernel_rfl) en61 (c61 w0 w _ _ A25 cp26 y24 b2 (hle10 _ _ hz8) b5 y4 hz11 hI _ hc27) ?_)
    rintro e w ⟨A29, cp30, rfl, hI⟩
    refine ⟨_, rfl, ?_⟩
    refine OpsT.pures (r := []) [6] [0, 4, 8, 9, 10] (S' := [(0, .slice A_a0 a0.length c_a0), (4, .pointer (some ⟨b1, 0, none⟩)), (8, .int .i64 x14), (9, .func (.func 85) #[] #[.pointer (some ⟨b2, 0, none⟩), .pointer (some ⟨b5, 0, none⟩)]), (10, .slice A29 y28.length cp30)]) (by kernel_rfl) ?_
    refine OpsT.done ?_
    refine Qn.then ?_
    refine CodT.seq ?_
    refine CodT.regionL [0, 1, 2, 3, 4, 5, 6] (by kernel_rfl) ?_
    refine OpsT.pures (r := [2, 3, 4, 5, 6]) [0, 1] [4, 9, 10, 29, 30] (S' := [(4, .pointer (some ⟨b1, 0, none⟩)), (9, .func (.func 85) #[] #[.pointer (some ⟨b2, 0, none⟩), .pointer (some ⟨b5, 0, none⟩)]), (10, .slice A29 y28.length cp30), (29, .slice A_a0 a0.length c_a0), (30, .int .i64 x14)]) (by kernel_rfl) ?_
    obtain ⟨hg31, h0⟩ := guardS h0
    have hf37 := (hr_a0.mono (Hp.le_trans hle7 hle10))
    have hr34 := RdS.sub hf37 hg31
    obtain ⟨A32, hA35⟩ : ∃ x, subA A_a0 c_a0 x14 4 = x := ⟨_, rfl⟩
    obtain ⟨cp33, hc36⟩ : ∃ x, c_a0 - (x14 : Int).toNat = x := ⟨_, rfl⟩
    rw [hA35, hc36] at hr34
    refine OpsT.cons (Does.yi (Yl.sub (lo := (some (.int .i64 x14))) (hi := none) (d := 31) (T := 22) (a := x14) (b := (a0.length : Int)) (by kernel_rfl) Go.Proofs.Try.underlying22 ty47 (.inl ⟨_, rfl⟩) (.inr ⟨rfl, rfl⟩) hg31 hf37.1 (sub_length _ hg31) hA35 hc36) hI ?_)
    obtain ⟨y39, hc38, h0⟩ := bindS h0
    try dsimp only at h0
    refine OpsT.cons (Does.call (d := some 32) (n := 62) (vs := [.slice A32 ((sub a0 x14 (a0.length : Int)).length) cp33]) (by kernel_rfl) en62 (c62 w0 w _ _ hI A32 cp33 (sub a0 x14 (a0.length : Int)) hr34 _ hc38) ?_)
    rintro e w ⟨A40, cp41, rfl, hI⟩
    refine ⟨_, rfl, ?_⟩
    refine OpsT.pures (r := [5, 6]) [4] [4, 10, 32, 33] (S' := [(4, .pointer (some ⟨b1, 0, none⟩)), (10, .slice A29 y28.length cp30), (32, .slice A40 y39.length cp41), (33, .func (.func 85) #[] #[.pointer (some ⟨b2, 0, none⟩), .pointer (some ⟨b5, 0, none⟩)])]) (by kernel_rfl) ?_
    obtain ⟨y43, hc42, h0⟩ := bindS h0
    try dsimp only at h0
    refine OpsT.cons (Does.call (d := some 34) (n := 61) (vs := [.slice A40 y39.length cp41, .func (.func 85) #[] #[.pointer (some ⟨b2, 0, none⟩), .pointer (some ⟨b5, 0, none⟩)]]) (by kernel_rfl) en61 (c61 w0 w _ _ A40 cp41 y39 b2 (hle10 _ _ hz8) b5 y4 hz11 hI _ hc42) ?_)
    rintro e w ⟨A44, cp45, rfl, hI⟩
    refine ⟨_, rfl, ?_⟩
    refine OpsT.pures (r := []) [6] [4, 10, 11] (S' := [(4, .pointer (some ⟨b1, 0, none⟩)), (10, .slice A29 y28.length cp30), (11, .slice A44 y43.length cp45)]) (by kernel_rfl) ?_
    refine OpsT.done ?_
    refine Qn.then ?_
    refine CodT.seq ?_
    refine CodT.regionL [0, 1, 2, 3, 4, 5, 6] (by kernel_rfl) ?_
    refine OpsT.pures (r := [1, 2, 3, 4, 5, 6]) [0] [4, 11, 35] (S' := [(4, .pointer (some ⟨b1, 0, none⟩)), (11, .slice A44 y43.length cp45), (35, .slice A29 y28.length cp30)]) (by kernel_rfl) ?_
    refine OpsT.cons (Does.yi (Yl.load (d := 36) (T := 47) (v := .agg (c_RootEntry a1).toArray) (by kernel_rfl) (ldBN ty47 (l := c_RootEntry a1) (o := 0) (cs := c_RootEntry a1) (pick3 _ _ _ _) (by kernel_rfl) (whole _ _ (by kernel_rfl)))) hI ?_)
    refine OpsT.cons (Does.buildSlice (en := c_RootEntry) (d := 37) (n := 1) (T := 22) (ps := [(0, .agg (c_RootEntry a1).toArray)]) ([a1] : List RootEntry) (by kernel_rfl) Go.Proofs.Try.underlying22 ty47 (by kernel_rfl) (by kernel_rfl) (by kernel_rfl) (by kernel_rfl) (len_all (fun _ => rfl)) hI ?_)
    intro b46 w hI
    obtain ⟨hg47, h0⟩ := guardS h0
    have hI := hI.mono (pick3 _ _ _ _)
    refine OpsT.cons (Does.append (d := 38) (t := 22) (tx := 22) (ty := 22) (ys := y28) (zs := ([a1] : List RootEntry)) (x := .slice (some ⟨b46, 0, none⟩) (([a1] : List RootEntry).length) 1) (by kernel_rfl) Go.Proofs.Try.underlying22 ty47 (by kernel_rfl) hI (src_own Go.Proofs.Try.underlying22 (hI.mono (pick2 _ _ _)) (one_flat _ (fun _ => rfl))) (ownS_facts (hI.mono (pick2 _ _ _))).2.2 (by unfold LIM at hg47; omega) hg47 ?_)
    intro A48 cp49 w hI
    refine OpsT.pures (r := [5, 6]) [4] [38, 39] (S' := [(38, .slice A48 ((y28 ++ ([a1] : List RootEntry)).length) cp49), (39, .slice A44 y43.length cp45)]) (by kernel_rfl) ?_
    obtain ⟨hg50, h0⟩ := guardS h0
    refine OpsT.cons (Does.append (d := 40) (t := 22) (tx := 22) (ty := 22) (ys := y28 ++ ([a1] : List RootEntry)) (zs := y43) (x := .slice A44 y43.length cp45) (by kernel_rfl) Go.Proofs.Try.underlying22 ty47 (by kernel_rfl) hI (src_own Go.Proofs.Try.underlying22 (hI.mono (pick3 _ _ _ _)) (one_flat _ (fun _ => rfl))) (ownS_facts (hI.mono (pick3 _ _ _ _))).2.2 (by unfold LIM at hg50; omega) hg50 ?_)
    intro A51 cp52 w hI
    refine OpsT.pures (r := []) [6] [6] (S' := [(6, .slice A51 (((y28 ++ ([a1] : List RootEntry)) ++ y43).length) cp52)]) (by kernel_rfl) ?_
    refine OpsT.done ?_
    refine Qn.then ?_
    refine CodT.ret ?_
    have hI := hI.mono (pick2 _ _ _)
    have hI := hI.drop
    have hI := hI.mono (pick2 _ _ _)
    have hI := hI.drop
    have hI := hI.mono (pick2 _ _ _)
    have hI := hI.drop
    have e := someS h0
    subst e
    refine Qn.keep [6] (S' := [(6, .slice A51 (((y28 ++ ([a1] : List RootEntry)) ++ y43).length) cp52)]) (by kernel_rfl) ?_
    exact post_ret (v := .slice A51 (((y28 ++ ([a1] : List RootEntry)) ++ y43).length) cp52) (fun a ha => RunRes.run (vs := [.slice A51 (((y28 ++ ([a1] : List RootEntry)) ++ y43).length) cp52]) (.tmp (t := 6) (by kernel_rfl) .nil) ha (by kernel_rfl)) ⟨A51, cp52, rfl, hI.weaken (Hp.le_trans hle7 hle10)⟩
set_option maxRecDepth 100000 in
set_option maxHeartbeats 4000000 in
/-- cenotaph/root.Set -/
theorem c21 (w0 w : World) (Z : Hp) (A : HP) (hI : Inv w0 Z w A) (A_a0_Map : Option Addr) (c_a0_Map : Nat) (a0_Map : (List RootEntry)) (hr_a0_Map : RdS Z c_RootEntry 4 A_a0_Map c_a0_Map a0_Map) (A_a0_Gone : Option Addr) (c_a0_Gone : Nat) (a0_Gone : (List Int)) (hr_a0_Gone : RdS Z (cI .i64) 1 A_a0_Gone c_a0_Gone a0_Gone) (a1 : RootEntry) (r : ((List RootEntry) × (List Int))) (h0 : root_Set a0_Map a0_Gone a1 = some r) :
    Calls prog 21 #[.agg ((([.slice A_a0_Map a0_Map.length c_a0_Map, .slice A_a0_Gone a0_Gone.length c_a0_Gone] : List Value))).toArray, .agg (c_RootEntry a1).toArray] w (fun e w' => ∃ (A1 : Option Addr) (c1 : Nat) (A2 : Option Addr) (c2 : Nat) (Z' : Hp), Z.le Z' ∧ e = .returned (.agg ((([.slice A1 r.1.length c1, .slice A2 r.2.length c2] : List Value))).toArray) ∧ RdS Z' (cI .i64) 1 A2 c2 r.2 ∧ Inv w0 Z' w' (star (ownS 47 c_RootEntry 4 A1 c1 r.1) A)) := by
  have e4 := calls_intro (R := (fun e w' => ∃ (A1 : Option Addr) (c1 : Nat) (A2 : Option Addr) (c2 : Nat) (Z' : Hp), Z.le Z' ∧ e = .returned (.agg ((([.slice A1 r.1.length c1, .slice A2 r.2.length c2] : List Value))).toArray) ∧ RdS Z' (cI .i64) 1 A2 c2 r.2 ∧ Inv w0 Z' w' (star (ownS 47 c_RootEntry 4 A1 c1 r.1) A))) (w := w) (args := [.agg ((([.slice A_a0_Map a0_Map.length c_a0_Map, .slice A_a0_Gone a0_Gone.length c_a0_Gone] : List Value))).toArray, .agg (c_RootEntry a1).toArray]) (fn := Go.Proofs.Try.f21) 11 Go.Proofs.Try.func21 (by rfl) Go.Proofs.Try.ntmps21 (by kernel_rfl)
  refine e4 ?_
  clear e4
  unfold root_Set at h0
  refine CodT.seq ?_
  refine CodT.regionL [0, 1, 2] (by kernel_rfl) ?_
  refine OpsT.cons (Does.boxL (d := 2) (T := 25) (v := .agg ((([.slice A_a0_Map a0_Map.length c_a0_Map, .slice A_a0_Gone a0_Gone.length c_a0_Gone] : List Value))).toArray) ((([.slice A_a0_Map a0_Map.length c_a0_Map, .slice A_a0_Gone a0_Gone.length c_a0_Gone] : List Value))) (by kernel_rfl) hI (by kernel_rfl) ?_)
  intro b1 w hI
  refine OpsT.cons (Does.boxL (d := 3) (T := 47) (v := .agg (c_RootEntry a1).toArray) (c_RootEntry a1) (by kernel_rfl) hI (by kernel_rfl) ?_)
  intro b2 w hI
  refine OpsT.cons (Does.allocL (d := 4) (T := 25) ((([.slice none 0 0, .slice none 0 0] : List Value))) (by kernel_rfl) ty25 hI (by kernel_rfl) ?_)
  intro b3 w hI
  refine OpsT.done ?_
  refine Qn.then ?_
  refine CodT.seq ?_
  refine CodT.regionL [0, 1, 2, 3, 4, 5] (by kernel_rfl) ?_
  refine OpsT.pures (r := [1, 2, 3, 4, 5]) [0] [2, 3, 4, 5] (S' := [(2, .pointer (some ⟨b1, 0, none⟩)), (3, .pointer (some ⟨b2, 0, none⟩)), (4, .pointer (some ⟨b3, 0, none⟩)), (5, .pointer (some ⟨b1, 0, none⟩))]) (by kernel_rfl) ?_
  refine OpsT.cons (Does.yi (Yl.load (d := 6) (T := 22) (v := .slice A_a0_Map a0_Map.length c_a0_Map) (by kernel_rfl) (ldB ty22 (l := (([.slice A_a0_Map a0_Map.length c_a0_Map, .slice A_a0_Gone a0_Gone.length c_a0_Gone] : List Value))) (o := 0) (v := .slice A_a0_Map a0_Map.length c_a0_Map) (pick3 _ _ _ _) (by kernel_rfl))) hI ?_)
  refine OpsT.cons (Does.yi (Yl.load (d := 7) (T := 47) (v := .agg (c_RootEntry a1).toArray) (by kernel_rfl) (ldBN ty47 (l := c_RootEntry a1) (o := 0) (cs := c_RootEntry a1) (pick2 _ _ _) (by kernel_rfl) (whole _ _ (by kernel_rfl)))) hI ?_)
  obtain ⟨y5, hc4, h0⟩ := bindS h0
  try dsimp only at h0
  refine OpsT.cons (Does.call (d := some 8) (n := 60) (vs := [.slice A_a0_Map a0_Map.length c_a0_Map, .agg (c_RootEntry a1).toArray, .func (.func 42) #[] #[]]) (by kernel_rfl) en60 (c60 w0 w _ _ hI A_a0_Map c_a0_Map a0_Map hr_a0_Map a1 _ hc4) ?_)
  rintro e w ⟨A6, cp7, rfl, hI⟩
  refine ⟨_, rfl, ?_⟩
  refine OpsT.pures (r := [5]) [4] [2, 4, 8, 9] (S' := [(2, .pointer (some ⟨b1, 0, none⟩)), (4, .pointer (some ⟨b3, 0, none⟩)), (8, .slice A6 y5.length cp7), (9, .pointer (some ⟨b1, 0, none⟩))]) (by kernel_rfl) ?_
  have hI := hI.mono (pick4 _ _ _ _ _)
  refine OpsT.cons (Does.storeLit (T := 22) (b := b1) (o := 0) (v := .slice A6 y5.length cp7) (l := (([.slice A_a0_Map a0_Map.length c_a0_Map, .slice A_a0_Gone a0_Gone.length c_a0_Gone] : List Value))) (vs := ([.slice A6 y5.length cp7] : List Value)) (L' := (([.slice A6 y5.length cp7, .slice A_a0_Gone a0_Gone.length c_a0_Gone] : List Value))) (by kernel_rfl) ty22 hI (by kernel_rfl) (by kernel_rfl) (by kernel_rfl) (by kernel_rfl) (by kernel_rfl) ?_)
  intro w hI
  refine OpsT.done ?_
  refine Qn.then ?_
  refine CodT.seq ?_
  refine CodT.regionL [0, 1] (by kernel_rfl) ?_
  refine OpsT.cons (Does.yi (Yl.load (d := 10) (T := 25) (v := .agg ((([.slice A6 y5.length cp7, .slice A_a0_Gone a0_Gone.length c_a0_Gone] : List Value))).toArray) (by kernel_rfl) (ldBN ty25 (l := (([.slice A6 y5.length cp7, .slice A_a0_Gone a0_Gone.length c_a0_Gone] : List Value))) (o := 0) (cs := (([.slice A6 y5.length cp7, .slice A_a0_Gone a0_Gone.length c_a0_Gone] : List Value))) (ent_refl _) (by kernel_rfl) (whole _ _ (by kernel_rfl)))) hI ?_)
  have hI := hI.mono (pick3 _ _ _ _)
  refine OpsT.cons (Does.storeLit (T := 25) (b := b3) (o := 0) (v := .agg ((([.slice A6 y5.length cp7, .slice A_a0_Gone a0_Gone.length c_a0_Gone] : List Value))).toArray) (l := (([.slice none 0 0, .slice none 0 0] : List Value))) (vs := (([.slice A6 y5.length cp7, .slice A_a0_Gone a0_Gone.length c_a0_Gone] : List Value))) (L' := (([.slice A6 y5.length cp7, .slice A_a0_Gone a0_Gone.length c_a0_Gone] : List Value))) (by kernel_rfl) ty25 hI (by kernel_rfl) (by kernel_rfl) (by kernel_rfl) (by kernel_rfl) (by kernel_rfl) ?_)
  intro w hI
  refine OpsT.done ?_
  refine Qn.then ?_
  refine CodT.ret ?_
  have hL8 := (ldBN ty25 (l := (([.slice A6 y5.length cp7, .slice A_a0_Gone a0_Gone.length c_a0_Gone] : List Value))) (o := 0) (cs := (([.slice A6 y5.length cp7, .slice A_a0_Gone a0_Gone.length c_a0_Gone] : List Value))) (ent_refl _) (by kernel_rfl) (whole _ _ (by kernel_rfl))) w hI
  have hI := hI.drop
  have hI := hI.drop
  have hI := hI.mono (pick2 _ _ _)
  have hI := hI.drop
  have e := someS h0
  subst e
  refine Qn.keep [4] (S' := [(4, .pointer (some ⟨b3, 0, none⟩))]) (by kernel_rfl) ?_
  exact post_ret (v := .agg ((([.slice A6 y5.length cp7, .slice A_a0_Gone a0_Gone.length c_a0_Gone] : List Value))).toArray) (fun a ha => RunRes.run (vs := [.agg ((([.slice A6 y5.length cp7, .slice A_a0_Gone a0_Gone.length c_a0_Gone] : List Value))).toArray]) (.cell (t := 4) (T := 25) (ad := ⟨b3, 0, none⟩) (by kernel_rfl) hL8 .nil) ha (by kernel_rfl)) ⟨A6, cp7, A_a0_Gone, c_a0_Gone, Z, Hp.le_refl _, rfl, hr_a0_Gone, hI⟩
set_option maxRecDepth 100000 in
set_option maxHeartbeats 4000000 in
/-- cenotaph/wire.num -/
theorem c104 (w0 w : World) (Z : Hp) (A : HP) (hI : Inv w0 Z w A) (a0 : ByteArray) (r : WireGot_int) (h0 : wire_num a0 = some r) :
    Calls prog 104 #[.string a0] w (fun e w' => e = .returned (.agg (c_WireGot_int r).toArray) ∧ Inv w0 Z w' A) := by
  have e4 := calls_intro (R := (fun e w' => e = .returned (.agg (c_WireGot_int r).toArray) ∧ Inv w0 Z w' A)) (w := w) (args := [.string a0]) (fn := Go.Proofs.Try.f104) 45 Go.Proofs.Try.func104 (by rfl) Go.Proofs.Try.ntmps104 (by kernel_rfl)
  refine e4 ?_
  clear e4
  unfold wire_num at h0
  refine CodT.seq ?_
  refine CodT.regionL [0] (by kernel_rfl) ?_
  refine OpsT.cons (Does.allocL (d := 2) (T := 149) (c_WireGot_int (WireGot_int.mk 0 (⟨#[]⟩ : ByteArray) false)) (by kernel_rfl) ty149 hI (by kernel_rfl) ?_)
  intro b1 w hI
  refine OpsT.done ?_
  refine Qn.then ?_
  refine CodT.seq ?_
  refine CodT.regionL [0] (by kernel_rfl) ?_
  refine OpsT.pures (r := []) [0] [0, 2, 3] (S' := [(0, .string a0), (2, .pointer (some ⟨b1, 0, none⟩)), (3, .int .i64 0)]) (by kernel_rfl) ?_
  refine OpsT.done ?_
  refine Qn.then ?_
  refine CodT.seq ?_
  refine CodT.seq ?_
  refine CodT.regionL [0, 1, 2, 3] (by kernel_rfl) ?_
  refine OpsT.pures (r := []) [0, 1, 2, 3] [0, 2, 3, 7, 8] (S' := [(0, .string a0), (2, .pointer (some ⟨b1, 0, none⟩)), (3, .int .i64 0), (7, .int .i64 (if 8 < (a0.size : Int) then 8 else (a0.size : Int))), (8, .int .i64 0)]) (by kernel_rfl) ?_
  refine OpsT.done ?_
  refine Qn.then ?_
  obtain ⟨r1, h1, h0⟩ := bindS h0
  refine CodT.meet1 (fun a w => .inr () = r1 ∧ Fr 45 [(2, .pointer (some ⟨b1, 0, none⟩))] a ∧ Inv w0 Z w (star (pt b1 (.cells (c_WireGot_int (WireGot_int.mk 0 (⟨#[]⟩ : ByteArray) false)).toArray 149 (0, 0))) A)) ?_ ?_
  ·
    refine CodT.block ?_
    refine (fun a ha => wp_loopN (fun k a w => ∃ (x2 : Int) (x3 : Int), wire_num.l0 a0 k x2 x3 = some r1 ∧ Fr 45 [(0, .string a0), (2, .pointer (some ⟨b1, 0, none⟩)), (3, .int .i64 x2), (7, .int .i64 (if 8 < (a0.size : Int) then 8 else (a0.size : Int))), (8, .int .i64 x3)] a ∧ Inv w0 Z w (star (pt b1 (.cells (c_WireGot_int (WireGot_int.mk 0 (⟨#[]⟩ : ByteArray) false)).toArray 149 (0, 0))) A)) ?_ FU a w ⟨0, 0, h1, ha.keep [0, 2, 3, 7, 8] (by kernel_rfl), hI⟩)
    clear h1 hI
    rintro k a w ⟨x2, x3, h1, ha, hI⟩
    rcases k with _ | k
    · cases h1
    simp only [wire_num.l0] at h1
    refine CodT.of ?_ ha
    refine CodT.seq ?_
    refine CodT.regionL [0] (by kernel_rfl) ?_
    refine OpsT.pures (r := []) [0] [0, 2, 3, 7, 8, 9] (S' := [(0, .string a0), (2, .pointer (some ⟨b1, 0, none⟩)), (3, .int .i64 x2), (7, .int .i64 (if 8 < (a0.size : Int) then 8 else (a0.size : Int))), (8, .int .i64 x3), (9, .bool (decide (x3 < (if 8 < (a0.size : Int) then 8 else (a0.size : Int)))))]) (by kernel_rfl) ?_
    refine OpsT.done ?_
    refine Qn.then ?_
    refine CodT.seq ?_
    by_cases hb4 : (decide (x3 < (if 8 < (a0.size : Int) then 8 else (a0.size : Int)))) = true
    · rw [if_pos hb4] at h1
      refine CodT.yes' (b := decide (x3 < (if 8 < (a0.size : Int) then 8 else (a0.size : Int)))) (by kernel_rfl) hb4 ?_
      refine CodT.skip ?_
      refine Qn.then ?_
      refine CodT.seq ?_
      refine CodT.block ?_
      refine CodT.seq ?_
      refine CodT.regionL [0, 1] (by kernel_rfl) ?_
      refine OpsT.pures (r := []) [0, 1] [0, 2, 3, 4, 7, 8] (S' := [(0, .string a0), (2, .pointer (some ⟨b1, 0, none⟩)), (3, .int .i64 x2), (4, .int .i64 x3), (7, .int .i64 (if 8 < (a0.size : Int) then 8 else (a0.size : Int))), (8, .int .i64 x3)]) (by kernel_rfl) ?_
      refine OpsT.done ?_
      refine Qn.then ?_
      refine CodT.seq ?_
      refine CodT.regionL [0, 1, 2, 3, 4, 5, 6, 7, 8, 9, 10] (by kernel_rfl) ?_
      refine OpsT.pures (r := [3, 4, 5, 6, 7, 8, 9, 10]) [0, 1, 2] [0, 2, 4, 7, 8, 11, 12, 13] (S' := [(0, .string a0), (2, .pointer (some ⟨b1, 0, none⟩)), (4, .int .i64 x3), (7, .int .i64 (if 8 < (a0.size : Int) then 8 else (a0.size : Int))), (8, .int .i64 x3), (11, .int .i64 x2), (12, .string a0), (13, .int .i64 x3)]) (by kernel_rfl) ?_
      obtain ⟨hg5, h1⟩ := guardS h1
      refine OpsT.cons (Does.yi (Yl.indexStr (d := 14) (T := 9) (k := .i64) (j := x3) (s := a0) (by kernel_rfl) Go.Proofs.Try.underlying9 hg5.1 hg5.2) hI ?_)
      refine OpsT.pures (r := [8, 9, 10]) [4, 5, 6, 7] [0, 2, 4, 7, 8, 11, 16, 18] (S' := [(0, .string a0), (2, .pointer (some ⟨b1, 0, none⟩)), (4, .int .i64 x3), (7, .int .i64 (if 8 < (a0.size : Int) then 8 else (a0.size : Int))), (8, .int .i64 x3), (11, .int .i64 x2), (16, .int .i64 (wi64 (bAnd .u8 (bt a0 x3) 127))), (18, .int .i64 (wi64 (7 * x3)))]) (by kernel_rfl) ?_
      obtain ⟨hg6, h1⟩ := guardS h1
      refine OpsT.cons (Does.yi (Yl.shl (d := 19) (T := 3) (k := .i64) (k' := .i64) (x := wi64 (bAnd .u8 (bt a0 x3) 127)) (y := wi64 (7 * x3)) (by kernel_rfl) hg6) hI ?_)
      refine OpsT.pures (r := []) [9, 10] [0, 2, 3, 4, 7, 8] (S' := [(0, .string a0), (2, .pointer (some ⟨b1, 0, none⟩)), (3, .int .i64 (bOr .i64 x2 (bShl .i64 (wi64 (bAnd .u8 (bt a0 x3) 127)) (wi64 (7 * x3))))), (4, .int .i64 x3), (7, .int .i64 (if 8 < (a0.size : Int) then 8 else (a0.size : Int))), (8, .int .i64 x3)]) (by kernel_rfl) ?_
      refine OpsT.done ?_
      refine Qn.then ?_
      refine CodT.seq ?_
      refine CodT.regionL [0, 1, 2, 3] (by kernel_rfl) ?_
      refine OpsT.pures (r := [2, 3]) [0, 1] [0, 2, 3, 4, 7, 8, 21, 22] (S' := [(0, .string a0), (2, .pointer (some ⟨b1, 0, none⟩)), (3, .int .i64 (bOr .i64 x2 (bShl .i64 (wi64 (bAnd .u8 (bt a0 x3) 127)) (wi64 (7 * x3))))), (4, .int .i64 x3), (7, .int .i64 (if 8 < (a0.size : Int) then 8 else (a0.size : Int))), (8, .int .i64 x3), (21, .string a0), (22, .int .i64 x3)]) (by kernel_rfl) ?_
      obtain ⟨hg7, h1⟩ := guardS h1
      refine OpsT.cons (Does.yi (Yl.indexStr (d := 23) (T := 9) (k := .i64) (j := x3) (s := a0) (by kernel_rfl) Go.Proofs.Try.underlying9 hg7.1 hg7.2) hI ?_)
      refine OpsT.pures (r := []) [3] [0, 2, 3, 4, 7, 8, 24] (S' := [(0, .string a0), (2, .pointer (some ⟨b1, 0, none⟩)), (3, .int .i64 (bOr .i64 x2 (bShl .i64 (wi64 (bAnd .u8 (bt a0 x3) 127)) (wi64 (7 * x3))))), (4, .int .i64 x3), (7, .int .i64 (if 8 < (a0.size : Int) then 8 else (a0.size : Int))), (8, .int .i64 x3), (24, .bool (decide ((bt a0 x3) < 128)))]) (by kernel_rfl) ?_
      refine OpsT.done ?_
      refine Qn.then ?_
      by_cases hb8 : (decide ((bt a0 x3) < 128)) = true
      · rw [if_pos hb8] at h1
        refine CodT.yes' (b := decide ((bt a0 x3) < 128)) (by kernel_rfl) hb8 ?_
        obtain ⟨r2, h2, h1⟩ := bindS h1
        refine CodT.meet (fun a w => ∃ (x9 : WireGot_int), x9 = r2 ∧ Fr 45 [(2, .pointer (some ⟨b1, 0, none⟩))] a ∧ Inv w0 Z w (star (pt b1 (.cells (c_WireGot_int x9).toArray 149 (0, 0))) A)) ?_ ?_
        ·
          refine CodT.drawI (n := 19) [18] (by kernel_rfl) (by kernel_rfl) hI ?_
          intro w hI
          refine GmT.p' 0 25 (.int .i64 (bOr .i64 x2 (bShl .i64 (wi64 (bAnd .u8 (bt a0 x3) 127)) (wi64 (7 * x3))))) (by kernel_rfl) (by kernel_rfl) ?_
          refine GmT.p' 1 26 (.string a0) (by kernel_rfl) (by kernel_rfl) ?_
          refine GmT.p' 2 27 (.int .i64 x3) (by kernel_rfl) (by kernel_rfl) ?_
          refine GmT.p' 3 28 (.int .i64 (wi64 (x3 + 1))) (by kernel_rfl) (by kernel_rfl) ?_
          refine GmT.p' 5 30 (.int .i64 (bOr .i64 x2 (bShl .i64 (wi64 (bAnd .u8 (bt a0 x3) 127)) (wi64 (7 * x3))))) (by kernel_rfl) (by kernel_rfl) ?_
          refine GmT.p' 6 31 (.bool (decide ((bOr .i64 x2 (bShl .i64 (wi64 (bAnd .u8 (bt a0 x3) 127)) (wi64 (7 * x3)))) ≤ 1125899906842624))) (by kernel_rfl) (by kernel_rfl) ?_
          refine GmT.p' 7 32 (.bool (decide ((bOr .i64 x2 (bShl .i64 (wi64 (bAnd .u8 (bt a0 x3) 127)) (wi64 (7 * x3)))) ≤ 1125899906842624))) (by kernel_rfl) (by kernel_rfl) ?_
          by_cases hb10 : (decide ((bOr .i64 x2 (bShl .i64 (wi64 (bAnd .u8 (bt a0 x3) 127)) (wi64 (7 * x3)))) ≤ 1125899906842624)) = true
          · rw [if_pos hb10] at h2
            refine GmT.keep [0, 2, 4, 25, 26, 28, 32] (S' := [(0, .string a0), (2, .pointer (some ⟨b1, 0, none⟩)), (4, .int .i64 x3), (25, .int .i64 (bOr .i64 x2 (bShl .i64 (wi64 (bAnd .u8 (bt a0 x3) 127)) (wi64 (7 * x3))))), (26, .string a0), (28, .int .i64 (wi64 (x3 + 1))), (32, .bool true)]) (by simp only [hb10]; kernel_rfl) ?_
            refine GmT.p' 8 33 (.int .i64 x3) (by kernel_rfl) (by kernel_rfl) ?_
            refine GmT.p' 9 34 (.bool (x3 == 0)) (by kernel_rfl) (by kernel_rfl) ?_
            refine GmT.p' 10 35 (.bool (x3 == 0)) (by kernel_rfl) (by kernel_rfl) ?_
            by_cases hb11 : (x3 == 0) = true
            · rw [if_pos hb11] at h2
              refine GmT.keep [0, 2, 4, 25, 26, 28, 32, 35] (S' := [(0, .string a0), (2, .pointer (some ⟨b1, 0, none⟩)), (4, .int .i64 x3), (25, .int .i64 (bOr .i64 x2 (bShl .i64 (wi64 (bAnd .u8 (bt a0 x3) 127)) (wi64 (7 * x3))))), (26, .string a0), (28, .int .i64 (wi64 (x3 + 1))), (32, .bool true), (35, .bool true)]) (by simp only [hb11]; kernel_rfl) ?_
              refine GmT.p' 11 36 (undef) (by kernel_rfl) (by kernel_rfl) ?_
              refine GmT.p' 12 37 (undef) (by kernel_rfl) (by kernel_rfl) ?_
              refine GmT.p' 13 38 (undef) (by kernel_rfl) (by kernel_rfl) ?_
              refine GmT.p' 14 39 (undef) (by kernel_rfl) (by kernel_rfl) ?_
              refine GmT.p' 15 40 (.bool true) (by kernel_rfl) (by kernel_rfl) ?_
              refine GmT.p' 16 41 (.bool true) (by kernel_rfl) (by kernel_rfl) ?_
              obtain ⟨hg12, h2⟩ := guardS h2
              refine GmT.r (i := 4) 2 (by kernel_rfl) (by kernel_rfl) (Yl.sliceStr10 (d := 29) (T := 9) (s := a0) (lo := wi64 (x3 + 1)) (by kernel_rfl) Go.Proofs.Try.underlying9 hg12) hI ?_
              refine GmT.p' 17 42 (.agg (c_WireGot_int (WireGot_int.mk (bOr .i64 x2 (bShl .i64 (wi64 (bAnd .u8 (bt a0 x3) 127)) (wi64 (7 * x3)))) (sx a0 (wi64 (x3 + 1)) (a0.size : Int)) true)).toArray) (by kernel_rfl) (by kernel_rfl) ?_
              refine GmT.o (i := 18) (by kernel_rfl) (Does.storeLit (T := 149) (b := b1) (o := 0) (v := .agg (c_WireGot_int (WireGot_int.mk (bOr .i64 x2 (bShl .i64 (wi64 (bAnd .u8 (bt a0 x3) 127)) (wi64 (7 * x3)))) (sx a0 (wi64 (x3 + 1)) (a0.size : Int)) true)).toArray) (l := c_WireGot_int (WireGot_int.mk 0 (⟨#[]⟩ : ByteArray) false)) (vs := c_WireGot_int (WireGot_int.mk (bOr .i64 x2 (bShl .i64 (wi64 (bAnd .u8 (bt a0 x3) 127)) (wi64 (7 * x3)))) (sx a0 (wi64 (x3 + 1)) (a0.size : Int)) true)) (L' := c_WireGot_int (WireGot_int.mk (bOr .i64 x2 (bShl .i64 (wi64 (bAnd .u8 (bt a0 x3) 127)) (wi64 (7 * x3)))) (sx a0 (wi64 (x3 + 1)) (a0.size : Int)) true)) (by kernel_rfl) ty149 hI (by kernel_rfl) (by kernel_rfl) (by kernel_rfl) (by kernel_rfl) (by kernel_rfl) ?_)
              intro w hI
              refine ⟨fun h => absurd h (by decide), ?_⟩
              refine GmT.done (by kernel_rfl) ?_
              have e := someS h2
              subst e
              exact Qn.thenJ fun a ha => ⟨(WireGot_int.mk (bOr .i64 x2 (bShl .i64 (wi64 (bAnd .u8 (bt a0 x3) 127)) (wi64 (7 * x3)))) (sx a0 (wi64 (x3 + 1)) (a0.size : Int)) true), rfl, ha.keep [2] (by kernel_rfl), hI⟩
            · rw [if_neg hb11] at h2
              have hb11 : (x3 == 0) = false := by simpa using hb11
              refine GmT.keep [0, 2, 4, 25, 26, 28, 32, 35] (S' := [(0, .string a0), (2, .pointer (some ⟨b1, 0, none⟩)), (4, .int .i64 x3), (25, .int .i64 (bOr .i64 x2 (bShl .i64 (wi64 (bAnd .u8 (bt a0 x3) 127)) (wi64 (7 * x3))))), (26, .string a0), (28, .int .i64 (wi64 (x3 + 1))), (32, .bool true), (35, .bool false)]) (by simp only [hb11]; kernel_rfl) ?_
              refine GmT.p' 11 36 (.string a0) (by kernel_rfl) (by kernel_rfl) ?_
              refine GmT.p' 12 37 (.int .i64 x3) (by kernel_rfl) (by kernel_rfl) ?_
              obtain ⟨hg13, h2⟩ := guardS h2
              refine GmT.r (i := 4) 2 (by kernel_rfl) (by kernel_rfl) (Yl.sliceStr10 (d := 29) (T := 9) (s := a0) (lo := wi64 (x3 + 1)) (by kernel_rfl) Go.Proofs.Try.underlying9 hg13) hI ?_
              obtain ⟨hg14, h2⟩ := guardS h2
              refine GmT.r (i := 13) 2 (by kernel_rfl) (by kernel_rfl) (Yl.indexStr (d := 38) (T := 9) (k := .i64) (j := x3) (s := a0) (by kernel_rfl) Go.Proofs.Try.underlying9 hg14.1 hg14.2) hI ?_
              refine GmT.p' 14 39 (.bool (decide ((bt a0 x3) > 0))) (by kernel_rfl) (by kernel_rfl) ?_
              refine GmT.p' 15 40 (.bool (decide ((bt a0 x3) > 0))) (by kernel_rfl) (by kernel_rfl) ?_
              refine GmT.p' 16 41 (.bool (decide ((bt a0 x3) > 0))) (by kernel_rfl) (by kernel_rfl) ?_
              refine GmT.p' 17 42 (.agg (c_WireGot_int (WireGot_int.mk (bOr .i64 x2 (bShl .i64 (wi64 (bAnd .u8 (bt a0 x3) 127)) (wi64 (7 * x3)))) (sx a0 (wi64 (x3 + 1)) (a0.size : Int)) (decide ((bt a0 x3) > 0)))).toArray) (by kernel_rfl) (by kernel_rfl) ?_
              refine GmT.o (i := 18) (by kernel_rfl) (Does.storeLit (T := 149) (b := b1) (o := 0) (v := .agg (c_WireGot_int (WireGot_int.mk (bOr .i64 x2 (bShl .i64 (wi64 (bAnd .u8 (bt a0 x3) 127)) (wi64 (7 * x3)))) (sx a0 (wi64 (x3 + 1)) (a0.size : Int)) (decide ((bt a0 x3) > 0)))).toArray) (l := c_WireGot_int (WireGot_int.mk 0 (⟨#[]⟩ : ByteArray) false)) (vs := c_WireGot_int (WireGot_int.mk (bOr .i64 x2 (bShl .i64 (wi64 (bAnd .u8 (bt a0 x3) 127)) (wi64 (7 * x3)))) (sx a0 (wi64 (x3 + 1)) (a0.size : Int)) (decide ((bt a0 x3) > 0)))) (L' := c_WireGot_int (WireGot_int.mk (bOr .i64 x2 (bShl .i64 (wi64 (bAnd .u8 (bt a0 x3) 127)) (wi64 (7 * x3)))) (sx a0 (wi64 (x3 + 1)) (a0.size : Int)) (decide ((bt a0 x3) > 0)))) (by kernel_rfl) ty149 hI (by kernel_rfl) (by kernel_rfl) (by kernel_rfl) (by kernel_rfl) (by kernel_rfl) ?_)
              intro w hI
              refine ⟨fun h => absurd h (by decide), ?_⟩
              refine GmT.done (by kernel_rfl) ?_
              have e := someS h2
              subst e
              exact Qn.thenJ fun a ha => ⟨(WireGot_int.mk (bOr .i64 x2 (bShl .i64 (wi64 (bAnd .u8 (bt a0 x3) 127)) (wi64 (7 * x3)))) (sx a0 (wi64 (x3 + 1)) (a0.size : Int)) (decide ((bt a0 x3) > 0))), rfl, ha.keep [2] (by kernel_rfl), hI⟩
          · rw [if_neg hb10] at h2
            have hb10 : (decide ((bOr .i64 x2 (bShl .i64 (wi64 (bAnd .u8 (bt a0 x3) 127)) (wi64 (7 * x3)))) ≤ 1125899906842624)) = false := by simpa using hb10
            refine GmT.keep [0, 2, 4, 25, 26, 28, 32] (S' := [(0, .string a0), (2, .pointer (some ⟨b1, 0, none⟩)), (4, .int .i64 x3), (25, .int .i64 (bOr .i64 x2 (bShl .i64 (wi64 (bAnd .u8 (bt a0 x3) 127)) (wi64 (7 * x3))))), (26, .string a0), (28, .int .i64 (wi64 (x3 + 1))), (32, .bool false)]) (by simp only [hb10]; kernel_rfl) ?_
            refine GmT.p' 8 33 (undef) (by kernel_rfl) (by kernel_rfl) ?_
            refine GmT.p' 9 34 (undef) (by kernel_rfl) (by kernel_rfl) ?_
            refine GmT.p' 10 35 (undef) (by kernel_rfl) (by kernel_rfl) ?_
            refine GmT.p' 11 36 (undef) (by kernel_rfl) (by kernel_rfl) ?_
            refine GmT.p' 12 37 (undef) (by kernel_rfl) (by kernel_rfl) ?_
            refine GmT.p' 13 38 (undef) (by kernel_rfl) (by kernel_rfl) ?_
            refine GmT.p' 14 39 (undef) (by kernel_rfl) (by kernel_rfl) ?_
            refine GmT.p' 15 40 (undef) (by kernel_rfl) (by kernel_rfl) ?_
            refine GmT.p' 16 41 (.bool false) (by kernel_rfl) (by kernel_rfl) ?_
            obtain ⟨hg15, h2⟩ := guardS h2
            refine GmT.r (i := 4) 2 (by kernel_rfl) (by kernel_rfl) (Yl.sliceStr10 (d := 29) (T := 9) (s := a0) (lo := wi64 (x3 + 1)) (by kernel_rfl) Go.Proofs.Try.underlying9 hg15) hI ?_
            refine GmT.p' 17 42 (.agg (c_WireGot_int (WireGot_int.mk (bOr .i64 x2 (bShl .i64 (wi64 (bAnd .u8 (bt a0 x3) 127)) (wi64 (7 * x3)))) (sx a0 (wi64 (x3 + 1)) (a0.size : Int)) false)).toArray) (by kernel_rfl) (by kernel_rfl) ?_
            refine GmT.o (i := 18) (by kernel_rfl) (Does.storeLit (T := 149) (b := b1) (o := 0) (v := .agg (c_WireGot_int (WireGot_int.mk (bOr .i64 x2 (bShl .i64 (wi64 (bAnd .u8 (bt a0 x3) 127)) (wi64 (7 * x3)))) (sx a0 (wi64 (x3 + 1)) (a0.size : Int)) false)).toArray) (l := c_WireGot_int (WireGot_int.mk 0 (⟨#[]⟩ : ByteArray) false)) (vs := c_WireGot_int (WireGot_int.mk (bOr .i64 x2 (bShl .i64 (wi64 (bAnd .u8 (bt a0 x3) 127)) (wi64 (7 * x3)))) (sx a0 (wi64 (x3 + 1)) (a0.size : Int)) false)) (L' := c_WireGot_int (WireGot_int.mk (bOr .i64 x2 (bShl .i64 (wi64 (bAnd .u8 (bt a0 x3) 127)) (wi64 (7 * x3)))) (sx a0 (wi64 (x3 + 1)) (a0.size : Int)) false)) (by kernel_rfl) ty149 hI (by kernel_rfl) (by kernel_rfl) (by kernel_rfl) (by kernel_rfl) (by kernel_rfl) ?_)
            intro w hI
            refine ⟨fun h => absurd h (by decide), ?_⟩
            refine GmT.done (by kernel_rfl) ?_
            have e := someS h2
            subst e
            exact Qn.thenJ fun a ha => ⟨(WireGot_int.mk (bOr .i64 x2 (bShl .i64 (wi64 (bAnd .u8 (bt a0 x3) 127)) (wi64 (7 * x3)))) (sx a0 (wi64 (x3 + 1)) (a0.size : Int)) false), rfl, ha.keep [2] (by kernel_rfl), hI⟩
        ·
          rintro a w ⟨x9, rfl, ha, hI⟩
          try dsimp only at h1
          refine CodT.of ?_ ha
          refine CodT.ret ?_
          refine Qn.block_ret ?_
          refine Qn.ret_then ?_
          refine Qn.ret_then ?_
          refine Qn.block_ret ?_
          refine Qn.ret_then ?_
          refine Qn.ret_then ?_
          have hL16 := (ldBN ty149 (l := c_WireGot_int x9) (o := 0) (cs := c_WireGot_int x9) (ent_refl _) (by kernel_rfl) (whole _ _ (by kernel_rfl))) w hI
          have hI := hI.drop
          have e := someS h1
          subst e
          try dsimp only at h0
          have e := someS h0
          subst e
          refine Qn.keep [2] (S' := [(2, .pointer (some ⟨b1, 0, none⟩))]) (by kernel_rfl) ?_
          exact post_ret (v := .agg (c_WireGot_int x9).toArray) (fun a ha => RunRes.run (vs := [.agg (c_WireGot_int x9).toArray]) (.cell (t := 2) (T := 149) (ad := ⟨b1, 0, none⟩) (by kernel_rfl) hL16 .nil) ha (by kernel_rfl)) ⟨rfl, hI⟩
      · rw [if_neg hb8] at h1
        refine CodT.no' (b := decide ((bt a0 x3) < 128)) (by kernel_rfl) (by simpa using hb8) ?_
        refine CodT.skip ?_
        refine Qn.block_normal ?_
        refine Qn.then ?_
        refine CodT.regionL [0, 1] (by kernel_rfl) ?_
        refine OpsT.pures (r := []) [0, 1] [0, 2, 3, 7, 8] (S' := [(0, .string a0), (2, .pointer (some ⟨b1, 0, none⟩)), (3, .int .i64 (bOr .i64 x2 (bShl .i64 (wi64 (bAnd .u8 (bt a0 x3) 127)) (wi64 (7 * x3))))), (7, .int .i64 (if 8 < (a0.size : Int) then 8 else (a0.size : Int))), (8, .int .i64 (wi64 (x3 + 1)))]) (by kernel_rfl) ?_
        refine OpsT.done ?_
        exact Qn.thenJ fun a ha => ⟨k, Nat.lt_succ_self k, bOr .i64 x2 (bShl .i64 (wi64 (bAnd .u8 (bt a0 x3) 127)) (wi64 (7 * x3))), wi64 (x3 + 1), h1, ha.keep [0, 2, 3, 7, 8] (by kernel_rfl), hI⟩
    · rw [if_neg hb4] at h1
      refine CodT.no' (b := decide (x3 < (if 8 < (a0.size : Int) then 8 else (a0.size : Int)))) (by kernel_rfl) (by simpa using hb4) ?_
      refine CodT.exit ?_
      refine Qn.exit_then ?_
      refine Qn.exit_then ?_
      refine Qn.block ?_
      have e := someS h1
      subst e
      exact Qn.thenJ fun a ha => ⟨rfl, ha.keep [2] (by kernel_rfl), hI⟩
  ·
    rintro a w ⟨rfl, ha, hI⟩
    try dsimp only at h0
    refine Qn.of ?_ ha
    refine Qn.then ?_
    refine CodT.seq ?_
    refine CodT.regionL [0, 1] (by kernel_rfl) ?_
    refine OpsT.pures (r := [1]) [0] [2, 44] (S' := [(2, .pointer (some ⟨b1, 0, none⟩)), (44, .agg (c_WireGot_int (WireGot_int.mk 0 (⟨#[]⟩ : ByteArray) false)).toArray)]) (by kernel_rfl) ?_
    refine OpsT.cons (Does.storeLit (T := 149) (b := b1) (o := 0) (v := .agg (c_WireGot_int (WireGot_int.mk 0 (⟨#[]⟩ : ByteArray) false)).toArray) (l := c_WireGot_int (WireGot_int.mk 0 (⟨#[]⟩ : ByteArray) false)) (vs := c_WireGot_int (WireGot_int.mk 0 (⟨#[]⟩ : ByteArray) false)) (L' := c_WireGot_int (WireGot_int.mk 0 (⟨#[]⟩ : ByteArray) false)) (by kernel_rfl) ty149 hI (by kernel_rfl) (by kernel_rfl) (by kernel_rfl) (by kernel_rfl) (by kernel_rfl) ?_)
    intro w hI
    refine OpsT.done ?_
    refine Qn.then ?_
    refine CodT.ret ?_
    have hL17 := (ldBN ty149 (l := c_WireGot_int (WireGot_int.mk 0 (⟨#[]⟩ : ByteArray) false)) (o := 0) (cs := c_WireGot_int (WireGot_int.mk 0 (⟨#[]⟩ : ByteArray) false)) (ent_refl _) (by kernel_rfl) (whole _ _ (by kernel_rfl))) w hI
    have hI := hI.drop
    have e := someS h0
    subst e
    refine Qn.keep [2] (S' := [(2, .pointer (some ⟨b1, 0, none⟩))]) (by kernel_rfl) ?_
    exact post_ret (v := .agg (c_WireGot_int (WireGot_int.mk 0 (⟨#[]⟩ : ByteArray) false)).toArray) (fun a ha => RunRes.run (vs := [.agg (c_WireGot_int (WireGot_int.mk 0 (⟨#[]⟩ : ByteArray) false)).toArray]) (.cell (t := 2) (T := 149) (ad := ⟨b1, 0, none⟩) (by kernel_rfl) hL17 .nil) ha (by kernel_rfl)) ⟨rfl, hI⟩
set_option maxRecDepth 100000 in
set_option maxHeartbeats 4000000 in
/-- (cenotaph/wire.got[int]).parts -/
theorem c105 (w0 w : World) (Z : Hp) (A : HP) (hI : Inv w0 Z w A) (a0 : WireGot_int) (r : (Int × ByteArray × Bool)) (h0 : wire_got_int_parts a0 = some r) :
    Calls prog 105 #[.agg (c_WireGot_int a0).toArray] w (fun e w' => e = .returned (.tuple #[.int .i64 r.1, .string r.2.1, .bool r.2.2]) ∧ Inv w0 Z w' A) := by
  have e4 := calls_intro (R := (fun e w' => e = .returned (.tuple #[.int .i64 r.1, .string r.2.1, .bool r.2.2]) ∧ Inv w0 Z w' A)) (w := w) (args := [.agg (c_WireGot_int a0).toArray]) (fn := Go.Proofs.Try.f105) 14 Go.Proofs.Try.func105 (by rfl) Go.Proofs.Try.ntmps105 (by kernel_rfl)
  refine e4 ?_
  clear e4
  unfold wire_got_int_parts at h0
  refine CodT.seq ?_
  refine CodT.regionL [0, 1, 2, 3] (by kernel_rfl) ?_
  refine OpsT.cons (Does.boxL (d := 1) (T := 149) (v := .agg (c_WireGot_int a0).toArray) (c_WireGot_int a0) (by kernel_rfl) hI (by kernel_rfl) ?_)
  intro b1 w hI
  refine OpsT.pures (r := []) [1, 2, 3] [1] (S' := [(1, .pointer (some ⟨b1, 0, none⟩))]) (by kernel_rfl) ?_
  refine OpsT.done ?_
  refine Qn.then ?_
  refine CodT.seq ?_
  refine CodT.seq ?_
  refine CodT.regionL [0, 1, 2] (by kernel_rfl) ?_
  refine OpsT.pures (r := [1, 2]) [0] [1, 6] (S' := [(1, .pointer (some ⟨b1, 0, none⟩)), (6, .pointer (some ⟨b1, 2, none⟩))]) (by kernel_rfl) ?_
  refine OpsT.cons (Does.yi (Yl.load (d := 7) (T := 4) (v := .bool a0.ok) (by kernel_rfl) (ldB ty4 (l := c_WireGot_int a0) (o := 2) (v := .bool a0.ok) (ent_refl _) (by kernel_rfl))) hI ?_)
  refine OpsT.pures (r := []) [2] [1, 8] (S' := [(1, .pointer (some ⟨b1, 0, none⟩)), (8, .bool (!a0.ok))]) (by kernel_rfl) ?_
  refine OpsT.done ?_
  refine Qn.then ?_
  by_cases hb2 : (!a0.ok) = true
  · rw [if_pos hb2] at h0
    refine CodT.yes' (b := !a0.ok) (by kernel_rfl) hb2 ?_
    refine CodT.seq ?_
    refine CodT.regionL [0] (by kernel_rfl) ?_
    refine OpsT.pures (r := []) [0] [5] (S' := [(5, .int .i64 0)]) (by kernel_rfl) ?_
    refine OpsT.done ?_
    refine Qn.then ?_
    refine CodT.seq ?_
    refine CodT.regionL [0, 1, 2, 3] (by kernel_rfl) ?_
    refine OpsT.pures (r := []) [0, 1, 2, 3] [2, 3, 4] (S' := [(2, .int .i64 0), (3, .string (⟨#[]⟩ : ByteArray)), (4, .bool false)]) (by kernel_rfl) ?_
    refine OpsT.done ?_
    refine Qn.then ?_
    refine CodT.ret ?_
    refine Qn.ret_then ?_
    have hI := hI.drop
    have e := someS h0
    subst e
    refine Qn.keep [2, 3, 4] (S' := [(2, .int .i64 0), (3, .string (⟨#[]⟩ : ByteArray)), (4, .bool false)]) (by kernel_rfl) ?_
    exact post_ret (v := .tuple #[.int .i64 0, .string (⟨#[]⟩ : ByteArray), .bool false]) (fun a ha => RunRes.run (vs := [.int .i64 0, .string (⟨#[]⟩ : ByteArray), .bool false]) (.tmp (t := 2) (by kernel_rfl) (.tmp (t := 3) (by kernel_rfl) (.tmp (t := 4) (by kernel_rfl) .nil))) ha (by kernel_rfl)) ⟨rfl, hI⟩
  · rw [if_neg hb2] at h0
    refine CodT.no' (b := !a0.ok) (by kernel_rfl) (by simpa using hb2) ?_
    refine CodT.skip ?_
    refine Qn.then ?_
    refine CodT.seq ?_
    refine CodT.drawI (n := 7) [] (by kernel_rfl) (by kernel_rfl) hI ?_
    intro w hI
    refine GmT.p' 0 10 (.pointer (some ⟨b1, 0, none⟩)) (by kernel_rfl) (by kernel_rfl) ?_
    refine GmT.p' 2 12 (.pointer (some ⟨b1, 1, none⟩)) (by kernel_rfl) (by kernel_rfl) ?_
    refine GmT.r (i := 1) 2 (by kernel_rfl) (by kernel_rfl) (Yl.load (d := 11) (T := 3) (v := .int .i64 a0.x) (by kernel_rfl) (ldB ty3 (l := c_WireGot_int a0) (o := 0) (v := .int .i64 a0.x) (ent_refl _) (by kernel_rfl))) hI ?_
    refine GmT.p' 4 2 (.int .i64 a0.x) (by kernel_rfl) (by kernel_rfl) ?_
    refine GmT.r (i := 3) 2 (by kernel_rfl) (by kernel_rfl) (Yl.load (d := 13) (T := 9) (v := .string a0.rest) (by kernel_rfl) (ldB ty9 (l := c_WireGot_int a0) (o := 1) (v := .string a0.rest) (ent_refl _) (by kernel_rfl))) hI ?_
    refine GmT.p' 5 3 (.string a0.rest) (by kernel_rfl) (by kernel_rfl) ?_
    refine GmT.p' 6 4 (.bool true) (by kernel_rfl) (by kernel_rfl) ?_
    refine GmT.done (by kernel_rfl) ?_
    refine Qn.then ?_
    refine CodT.ret ?_
    have hI := hI.drop
    have e := someS h0
    subst e
    refine Qn.keep [2, 3, 4] (S' := [(2, .int .i64 a0.x), (3, .string a0.rest), (4, .bool true)]) (by kernel_rfl) ?_
    exact post_ret (v := .tuple #[.int .i64 a0.x, .string a0.rest, .bool true]) (fun a ha => RunRes.run (vs := [.int .i64 a0.x, .string a0.rest, .bool true]) (.tmp (t := 2) (by kernel_rfl) (.tmp (t := 3) (by kernel_rfl) (.tmp (t := 4) (by kernel_rfl) .nil))) ha (by kernel_rfl)) ⟨rfl, hI⟩
set_option maxRecDepth 100000 in
set_option maxHeartbeats 4000000 in
/-- cenotaph/wire.GetNum -/
theorem c82 (w0 w : World) (Z : Hp) (A : HP) (hI : Inv w0 Z w A) (a0 : ByteArray) (r : (Int × ByteArray × Bool)) (h0 : wire_GetNum a0 = some r) :
    Calls prog 82 #[.string a0] w (fun e w' => e = .returned (.tuple #[.int .i64 r.1, .string r.2.1, .bool r.2.2]) ∧ Inv w0 Z w' A) := by
  have e4 := calls_intro (R := (fun e w' => e = .returned (.tuple #[.int .i64 r.1, .string r.2.1, .bool r.2.2]) ∧ Inv w0 Z w' A)) (w := w) (args := [.string a0]) (fn := Go.Proofs.Try.f82) 11 Go.Proofs.Try.func82 (by rfl) Go.Proofs.Try.ntmps82 (by kernel_rfl)
  refine e4 ?_
  clear e4
  unfold wire_GetNum at h0
  refine CodT.seq ?_
  refine CodT.regionL [0, 1, 2] (by kernel_rfl) ?_
  refine OpsT.pures (r := []) [0, 1, 2] [0] (S' := [(0, .string a0)]) (by kernel_rfl) ?_
  refine OpsT.done ?_
  refine Qn.then ?_
  refine CodT.seq ?_
  refine CodT.regionL [0, 1, 2, 3, 4, 5, 6, 7, 8] (by kernel_rfl) ?_
  refine OpsT.pures (r := [1, 2, 3, 4, 5, 6, 7, 8]) [0] [5] (S' := [(5, .string a0)]) (by kernel_rfl) ?_
  obtain ⟨y2, hc1, h0⟩ := bindS h0
  try dsimp only at h0
  refine OpsT.cons (Does.call (d := some 6) (n := 104) (vs := [.string a0]) (by kernel_rfl) en104 (c104 w0 w _ _ hI a0 _ hc1) ?_)
  rintro e w ⟨rfl, hI⟩
  refine ⟨_, rfl, ?_⟩
  obtain ⟨⟨y4, y5, y6⟩, hc3, h0⟩ := bindS h0
  try dsimp only at h0
  refine OpsT.cons (Does.call (d := some 7) (n := 105) (vs := [.agg (c_WireGot_int y2).toArray]) (by kernel_rfl) en105 (c105 w0 w _ _ hI y2 _ hc3) ?_)
  rintro e w ⟨rfl, hI⟩
  refine ⟨_, rfl, ?_⟩
  refine OpsT.pures (r := []) [3, 4, 5, 6, 7, 8] [2, 3, 4] (S' := [(2, .int .i64 y4), (3, .string y5), (4, .bool y6)]) (by kernel_rfl) ?_
  refine OpsT.done ?_
  refine Qn.then ?_
  refine CodT.ret ?_
  have e := someS h0
  subst e
  refine Qn.keep [2, 3, 4] (S' := [(2, .int .i64 y4), (3, .string y5), (4, .bool y6)]) (by kernel_rfl) ?_
  exact post_ret (v := .tuple #[.int .i64 y4, .string y5, .bool y6]) (fun a ha => RunRes.run (vs := [.int .i64 y4, .string y5, .bool y6]) (.tmp (t := 2) (by kernel_rfl) (.tmp (t := 3) (by kernel_rfl) (.tmp (t := 4) (by kernel_rfl) .nil))) ha (by kernel_rfl)) ⟨rfl, hI⟩
set_option maxRecDepth 100000 in
set_option maxHeartbeats 4000000 in
/-- cenotaph/root.numbers -/
theorem c81 (w0 w : World) (Z : Hp) (A : HP) (hI : Inv w0 Z w A) (a0 : ByteArray) (a1 : Int) (r : ((List Int) × ByteArray × Bool)) (h0 : root_numbers a0 a1 = some r) :
    Calls prog 81 #[.string a0, .int .i64 a1] w (fun e w' => ∃ (A1 : Option Addr) (c1 : Nat), e = .returned (.tuple #[.slice A1 r.1.length c1, .string r.2.1, .bool r.2.2]) ∧ Inv w0 Z w' (star (ownS 3 (cI .i64) 1 A1 c1 r.1) A)) := by
  have e4 := calls_intro (R := (fun e w' => ∃ (A1 : Option Addr) (c1 : Nat), e = .returned (.tuple #[.slice A1 r.1.length c1, .string r.2.1, .bool r.2.2]) ∧ Inv w0 Z w' (star (ownS 3 (cI .i64) 1 A1 c1 r.1) A))) (w := w) (args := [.string a0, .int .i64 a1]) (fn := Go.Proofs.Try.f81) 30 Go.Proofs.Try.func81 (by rfl) Go.Proofs.Try.ntmps81 (by kernel_rfl)
  refine e4 ?_
  clear e4
  unfold root_numbers at h0
  refine CodT.seq ?_
  refine CodT.regionL [0, 1, 2] (by kernel_rfl) ?_
  refine OpsT.pures (r := []) [0, 1, 2] [0, 1] (S' := [(0, .string a0), (1, .int .i64 a1)]) (by kernel_rfl) ?_
  refine OpsT.done ?_
  refine Qn.then ?_
  refine CodT.seq ?_
  refine CodT.regionL [0] (by kernel_rfl) ?_
  refine OpsT.pures (r := []) [0] [0, 1, 7] (S' := [(0, .string a0), (1, .int .i64 a1), (7, .slice none 0 0)]) (by kernel_rfl) ?_
  refine OpsT.done ?_
  refine Qn.then ?_
  refine CodT.seq ?_
  refine CodT.seq ?_
  refine CodT.regionL [0, 1] (by kernel_rfl) ?_
  refine OpsT.pures (r := []) [0, 1] [0, 7, 11, 12] (S' := [(0, .string a0), (7, .slice none 0 0), (11, .int .i64 a1), (12, .int .i64 0)]) (by kernel_rfl) ?_
  refine OpsT.done ?_
  refine Qn.then ?_
  obtain ⟨r1, h1, h0⟩ := bindS h0
  refine CodT.meet1 (fun a w => ∃ (x1 : ByteArray) (x2 : (List Int)) (A3 : Option Addr) (cp4 : Nat), .inr (x1, x2) = r1 ∧ Fr 30 [(0, .string x1), (7, .slice A3 x2.length cp4)] a ∧ Inv w0 Z w (star (ownS 3 (cI .i64) 1 A3 cp4 x2) A)) ?_ ?_
  ·
    refine CodT.block ?_
    have hI := ownS_nil (α := Int) hI 3 (cI .i64) 1
    refine (fun a ha => wp_loopN (fun k a w => ∃ (x5 : ByteArray) (x6 : (List Int)) (x9 : Int) (A7 : Option Addr) (cp8 : Nat), root_numbers.l0 a1 k x5 x6 x9 = some r1 ∧ Fr 30 [(0, .string x5), (7, .slice A7 x6.length cp8), (11, .int .i64 a1), (12, .int .i64 x9)] a ∧ Inv w0 Z w (star (ownS 3 (cI .i64) 1 A7 cp8 x6) A)) ?_ FU a w ⟨a0, ([] : List Int), 0, none, 0, h1, ha.keep [0, 7, 11, 12] (by kernel_rfl), hI⟩)
    clear h1 hI
    rintro k a w ⟨x5, x6, x9, A7, cp8, h1, ha, hI⟩
    rcases k with _ | k
    · cases h1
    simp only [root_numbers.l0] at h1
    refine CodT.of ?_ ha
    refine CodT.seq ?_
    refine CodT.regionL [0] (by kernel_rfl) ?_
    refine OpsT.pures (r := []) [0] [0, 7, 11, 12, 13] (S' := [(0, .string x5), (7, .slice A7 x6.length cp8), (11, .int .i64 a1), (12, .int .i64 x9), (13, .bool (decide (x9 < a1)))]) (by kernel_rfl) ?_
    refine OpsT.done ?_
    refine Qn.then ?_
    refine CodT.seq ?_
    by_cases hb10 : (decide (x9 < a1)) = true
    · rw [if_pos hb10] at h1
      refine CodT.yes' (b := decide (x9 < a1)) (by kernel_rfl) hb10 ?_
      refine CodT.skip ?_
      refine Qn.then ?_
      refine CodT.seq ?_
      refine CodT.block ?_
      refine CodT.seq ?_
      refine CodT.regionL [0, 1, 2, 3, 4, 5, 6, 7, 8] (by kernel_rfl) ?_
      refine OpsT.pures (r := [1, 2, 3, 4, 5, 6, 7, 8]) [0] [7, 11, 12, 15] (S' := [(7, .slice A7 x6.length cp8), (11, .int .i64 a1), (12, .int .i64 x9), (15, .string x5)]) (by kernel_rfl) ?_
      obtain ⟨⟨y12, y13, y14⟩, hc11, h1⟩ := bindS h1
      try dsimp only at h1
      refine OpsT.cons (Does.call (d := some 16) (n := 82) (vs := [.string x5]) (by kernel_rfl) en82 (c82 w0 w _ _ hI x5 _ hc11) ?_)
      rintro e w ⟨rfl, hI⟩
      refine ⟨_, rfl, ?_⟩
      refine OpsT.pures (r := []) [2, 3, 4, 5, 6, 7, 8] [7, 8, 9, 10, 11, 12] (S' := [(7, .slice A7 x6.length cp8), (8, .int .i64 y12), (9, .string y13), (10, .bool y14), (11, .int .i64 a1), (12, .int .i64 x9)]) (by kernel_rfl) ?_
      refine OpsT.done ?_
      refine Qn.then ?_
      refine CodT.seq ?_
      refine CodT.seq ?_
      refine CodT.regionL [0, 1] (by kernel_rfl) ?_
      refine OpsT.pures (r := []) [0, 1] [7, 8, 9, 11, 12, 21] (S' := [(7, .slice A7 x6.length cp8), (8, .int .i64 y12), (9, .string y13), (11, .int .i64 a1), (12, .int .i64 x9), (21, .bool (!y14))]) (by kernel_rfl) ?_
      refine OpsT.done ?_
      refine Qn.then ?_
      by_cases hb15 : (!y14) = true
      · rw [if_pos hb15] at h1
        refine CodT.yes' (b := !y14) (by kernel_rfl) hb15 ?_
        refine CodT.seq ?_
        refine CodT.regionL [0, 1, 2] (by kernel_rfl) ?_
        refine OpsT.pures (r := []) [0, 1, 2] [4, 5, 6] (S' := [(4, .slice none 0 0), (5, .string (⟨#[]⟩ : ByteArray)), (6, .bool false)]) (by kernel_rfl) ?_
        refine OpsT.done ?_
        refine Qn.then ?_
        refine CodT.ret ?_
        refine Qn.ret_then ?_
        refine Qn.block_ret ?_
        refine Qn.ret_then ?_
        refine Qn.ret_then ?_
        refine Qn.block_ret ?_
        refine Qn.ret_then ?_
        refine Qn.ret_then ?_
        have hI := ownS_nil (α := Int) hI 3 (cI .i64) 1
        have hI := hI.mono (pick2 _ _ _)
        have hI := hI.drop
        have e := someS h1
        subst e
        try dsimp only at h0
        have e := someS h0
        subst e
        refine Qn.keep [4, 5, 6] (S' := [(4, .slice none 0 0), (5, .string (⟨#[]⟩ : ByteArray)), (6, .bool false)]) (by kernel_rfl) ?_
        exact post_ret (v := .tuple #[.slice none 0 0, .string (⟨#[]⟩ : ByteArray), .bool false]) (fun a ha => RunRes.run (vs := [.slice none 0 0, .string (⟨#[]⟩ : ByteArray), .bool false]) (.tmp (t := 4) (by kernel_rfl) (.tmp (t := 5) (by kernel_rfl) (.tmp (t := 6) (by kernel_rfl) .nil))) ha (by kernel_rfl)) ⟨none, 0, rfl, hI⟩
      · rw [if_neg hb15] at h1
        refine CodT.no' (b := !y14) (by kernel_rfl) (by simpa using hb15) ?_
        refine CodT.skip ?_
        refine Qn.then ?_
        refine CodT.seq ?_
        refine CodT.regionL [0, 1, 2, 3, 4] (by kernel_rfl) ?_
        refine OpsT.pures (r := [2, 3, 4]) [0, 1] [9, 11, 12, 22, 23] (S' := [(9, .string y13), (11, .int .i64 a1), (12, .int .i64 x9), (22, .slice A7 x6.length cp8), (23, .int .i64 y12)]) (by kernel_rfl) ?_
        refine OpsT.cons (Does.buildSlice (en := (cI .i64)) (d := 24) (n := 1) (T := 23) (ps := [(0, .int .i64 y12)]) ([y12] : List Int) (by kernel_rfl) Go.Proofs.Try.underlying23 ty3 (by kernel_rfl) (by kernel_rfl) (by kernel_rfl) (by kernel_rfl) (len_all (fun _ => rfl)) hI ?_)
        intro b16 w hI
        obtain ⟨hg17, h1⟩ := guardS h1
        have hI := hI.mono (pick2 _ _ _)
        refine OpsT.cons (Does.append (d := 25) (t := 23) (tx := 23) (ty := 23) (ys := x6) (zs := ([y12] : List Int)) (x := .slice (some ⟨b16, 0, none⟩) (([y12] : List Int).length) 1) (by kernel_rfl) Go.Proofs.Try.underlying23 ty3 (by kernel_rfl) hI (src_own Go.Proofs.Try.underlying23 (hI.mono (pick2 _ _ _)) (one_flat _ (fun _ => rfl))) (ownS_facts (hI.mono (pick2 _ _ _))).2.2 (by unfold LIM at hg17; omega) hg17 ?_)
        intro A18 cp19 w hI
        refine OpsT.pures (r := []) [4] [7, 9, 11, 12] (S' := [(7, .slice A18 ((x6 ++ ([y12] : List Int)).length) cp19), (9, .string y13), (11, .int .i64 a1), (12, .int .i64 x9)]) (by kernel_rfl) ?_
        refine OpsT.done ?_
        refine Qn.then ?_
        refine CodT.regionL [0, 1] (by kernel_rfl) ?_
        refine OpsT.pures (r := []) [0, 1] [0, 7, 11, 12] (S' := [(0, .string y13), (7, .slice A18 ((x6 ++ ([y12] : List Int)).length) cp19), (11, .int .i64 a1), (12, .int .i64 x9)]) (by kernel_rfl) ?_
        refine OpsT.done ?_
        refine Qn.block_normal ?_
        refine Qn.then ?_
        refine CodT.regionL [0, 1] (by kernel_rfl) ?_
        refine OpsT.pures (r := []) [0, 1] [0, 7, 11, 12] (S' := [(0, .string y13), (7, .slice A18 ((x6 ++ ([y12] : List Int)).length) cp19), (11, .int .i64 a1), (12, .int .i64 (wi64 (x9 + 1)))]) (by kernel_rfl) ?_
        refine OpsT.done ?_
        have hI := hI.mono (pick2 _ _ _)
        have hI := hI.drop
        exact Qn.thenJ fun a ha => ⟨k, Nat.lt_succ_self k, y13, x6 ++ ([y12] : List Int), wi64 (x9 + 1), A18, cp19, h1, ha.keep [0, 7, 11, 12] (by kernel_rfl), hI⟩
    · rw [if_neg hb10] at h1
      refine CodT.no' (b := decide (x9 < a1)) (by kernel_rfl) (by simpa using hb10) ?_
      refine CodT.exit ?_
      refine Qn.exit_then ?_
      refine Qn.exit_then ?_
      refine Qn.block ?_
      have e := someS h1
      subst e
      exact Qn.thenJ fun a ha => ⟨x5, x6, A7, cp8, rfl, ha.keep [0, 7] (by kernel_rfl), hI⟩
  ·
    rintro a w ⟨x1, x2, A3, cp4, rfl, ha, hI⟩
    try dsimp only at h0
    refine Qn.of ?_ ha
    refine Qn.then ?_
    refine CodT.seq ?_
    refine CodT.regionL [0, 1, 2, 3, 4] (by kernel_rfl) ?_
    refine OpsT.pures (r := []) [0, 1, 2, 3, 4] [4, 5, 6] (S' := [(4, .slice A3 x2.length cp4), (5, .string x1), (6, .bool true)]) (by kernel_rfl) ?_
    refine OpsT.done ?_
    refine Qn.then ?_
    refine CodT.ret ?_
    have e := someS h0
    subst e
    refine Qn.keep [4, 5, 6] (S' := [(4, .slice A3 x2.length cp4), (5, .string x1), (6, .bool true)]) (by kernel_rfl) ?_
    exact post_ret (v := .tuple #[.slice A3 x2.length cp4, .string x1, .bool true]) (fun a ha => RunRes.run (vs := [.slice A3 x2.length cp4, .string x1, .bool true]) (.tmp (t := 4) (by kernel_rfl) (.tmp (t := 5) (by kernel_rfl) (.tmp (t := 6) (by kernel_rfl) .nil))) ha (by kernel_rfl)) ⟨A3, cp4, rfl, hI⟩
set_option maxRecDepth 100000 in
set_option maxHeartbeats 4000000 in
/-- cenotaph/root.whole -/
theorem c52 (w0 w : World) (Z : Hp) (A : HP) (hI : Inv w0 Z w A) (A_a0 : Option Addr) (c_a0 : Nat) (a0 : (List ByteArray)) (hr_a0 : RdS Z cS 1 A_a0 c_a0 a0) (r : (ByteArray × Int × Bool)) (h0 : root_whole a0 = some r) :
    Calls prog 52 #[.slice A_a0 a0.length c_a0] w (fun e w' => e = .returned (.tuple #[.string r.1, .int .i64 r.2.1, .bool r.2.2]) ∧ Inv w0 Z w' A) := by
  have e4 := calls_intro (R := (fun e w' => e = .returned (.tuple #[.string r.1, .int .i64 r.2.1, .bool r.2.2]) ∧ Inv w0 Z w' A)) (w := w) (args := [.slice A_a0 a0.length c_a0]) (fn := Go.Proofs.Try.f52) 76 Go.Proofs.Try.func52 (by rfl) Go.Proofs.Try.ntmps52 (by kernel_rfl)
  refine e4 ?_
  clear e4
  unfold root_whole at h0
  refine CodT.seq ?_
  refine CodT.regionL [0, 1, 2] (by kernel_rfl) ?_
  refine OpsT.pures (r := []) [0, 1, 2] [0] (S' := [(0, .slice A_a0 a0.length c_a0)]) (by kernel_rfl) ?_
  refine OpsT.done ?_
  refine Qn.then ?_
  refine CodT.seq ?_
  refine CodT.regionL [0, 1] (by kernel_rfl) ?_
  refine OpsT.pures (r := []) [0, 1] [0, 5, 6] (S' := [(0, .slice A_a0 a0.length c_a0), (5, .string (⟨#[]⟩ : ByteArray)), (6, .int .i64 0)]) (by kernel_rfl) ?_
  refine OpsT.done ?_
  refine Qn.then ?_
  refine CodT.seq ?_
  refine CodT.seq ?_
  refine CodT.regionL [0, 1, 2] (by kernel_rfl) ?_
  refine OpsT.pures (r := []) [0, 1, 2] [0, 5, 6, 12, 13, 14] (S' := [(0, .slice A_a0 a0.length c_a0), (5, .string (⟨#[]⟩ : ByteArray)), (6, .int .i64 0), (12, .slice A_a0 a0.length c_a0), (13, .int .i64 (a0.length : Int)), (14, .int .i64 0)]) (by kernel_rfl) ?_
  refine OpsT.done ?_
  refine Qn.then ?_
  obtain ⟨r1, h1, h0⟩ := bindS h0
  refine CodT.meet1 (fun a w => ∃ (x1 : ByteArray) (x2 : Int), .inr (x1, x2) = r1 ∧ Fr 76 [(5, .string x1), (6, .int .i64 x2)] a ∧ Inv w0 Z w A) ?_ ?_
  ·
    refine CodT.block ?_
    refine (fun a ha => wp_loopN (fun k a w => ∃ (x3 : ByteArray) (x4 : Int) (x5 : Int), root_whole.l0 a0 k x3 x4 x5 = some r1 ∧ Fr 76 [(0, .slice A_a0 a0.length c_a0), (5, .string x3), (6, .int .i64 x4), (12, .slice A_a0 a0.length c_a0), (13, .int .i64 (a0.length : Int)), (14, .int .i64 x5)] a ∧ Inv w0 Z w A) ?_ FU a w ⟨(⟨#[]⟩ : ByteArray), 0, 0, h1, ha.keep [0, 5, 6, 12, 13, 14] (by kernel_rfl), hI⟩)
    clear h1 hI
    rintro k a w ⟨x3, x4, x5, h1, ha, hI⟩
    rcases k with _ | k
    · cases h1
    simp only [root_whole.l0] at h1
    refine CodT.of ?_ ha
    refine CodT.seq ?_
    refine CodT.regionL [0] (by kernel_rfl) ?_
    refine OpsT.pures (r := []) [0] [0, 5, 6, 12, 13, 14, 15] (S' := [(0, .slice A_a0 a0.length c_a0), (5, .string x3), (6, .int .i64 x4), (12, .slice A_a0 a0.length c_a0), (13, .int .i64 (a0.length : Int)), (14, .int .i64 x5), (15, .bool (decide (x5 < (a0.length : Int))))]) (by kernel_rfl) ?_
    refine OpsT.done ?_
    refine Qn.then ?_
    refine CodT.seq ?_
    by_cases hb6 : (decide (x5 < (a0.length : Int))) = true
    · rw [if_pos hb6] at h1
      refine CodT.yes' (b := decide (x5 < (a0.length : Int))) (by kernel_rfl) hb6 ?_
      refine CodT.skip ?_
      refine Qn.then ?_
      refine CodT.seq ?_
      refine CodT.block ?_
      refine CodT.seq ?_
      refine CodT.regionL [0, 1, 2, 3, 4] (by kernel_rfl) ?_
      refine OpsT.pures (r := [1, 2, 3, 4]) [0] [0, 5, 6, 12, 13, 14, 16] (S' := [(0, .slice A_a0 a0.length c_a0), (5, .string x3), (6, .int .i64 x4), (12, .slice A_a0 a0.length c_a0), (13, .int .i64 (a0.length : Int)), (14, .int .i64 x5), (16, .int .i64 x5)]) (by kernel_rfl) ?_
      obtain ⟨hg7, h1⟩ := guardS h1
      obtain ⟨g8, o12, hA9, hr10, hl11⟩ := RdS.get hr_a0 hg7.1 hg7.2
      refine OpsT.cons (Does.yi (Yl.indexSlice (d := 17) (T := 36) (cc := c_a0) (k := .i64) (j := x5) (g := g8) (o := o12) (by kernel_rfl) Go.Proofs.Try.underlying36 ty9 hA9 hg7.1 hg7.2) hI ?_)
      refine OpsT.cons (Does.yi (Yl.load (d := 18) (T := 9) (v := .string (gt a0 x5)) (by kernel_rfl) (ldR ty9 (v := .string (gt a0 x5)) 0 (fun w hC => hr10 w0 w _ hC) (by kernel_rfl))) hI ?_)
      refine OpsT.pures (r := []) [3, 4] [0, 5, 6, 7, 8, 12, 13, 14] (S' := [(0, .slice A_a0 a0.length c_a0), (5, .string x3), (6, .int .i64 x4), (7, .int .i64 x5), (8, .string (gt a0 x5)), (12, .slice A_a0 a0.length c_a0), (13, .int .i64 (a0.length : Int)), (14, .int .i64 x5)]) (by kernel_rfl) ?_
      refine OpsT.done ?_
      refine Qn.then ?_
      refine CodT.seq ?_
      refine CodT.regionL [0, 1, 2, 3, 4, 5, 6, 7, 8] (by kernel_rfl) ?_
      refine OpsT.pures (r := [1, 2, 3, 4, 5, 6, 7, 8]) [0] [0, 5, 6, 7, 12, 13, 14, 20] (S' := [(0, .slice A_a0 a0.length c_a0), (5, .string x3), (6, .int .i64 x4), (7, .int .i64 x5), (12, .slice A_a0 a0.length c_a0), (13, .int .i64 (a0.length : Int)), (14, .int .i64 x5), (20, .string (gt a0 x5))]) (by kernel_rfl) ?_
      obtain ⟨⟨y14, y17, y18⟩, hc13, h1⟩ := bindS h1
      try dsimp only at h1
      refine OpsT.cons (Does.call (d := some 21) (n := 81) (vs := [.string (gt a0 x5), .int .i64 2]) (by kernel_rfl) en81 (c81 w0 w _ _ hI (gt a0 x5) 2 _ hc13) ?_)
      rintro e w ⟨A15, cp16, rfl, hI⟩
      refine ⟨_, rfl, ?_⟩
      refine OpsT.pures (r := []) [2, 3, 4, 5, 6, 7, 8] [0, 5, 6, 7, 9, 10, 11, 12, 13, 14] (S' := [(0, .slice A_a0 a0.length c_a0), (5, .string x3), (6, .int .i64 x4), (7, .int .i64 x5), (9, .slice A15 y14.length cp16), (10, .string y17), (11, .bool y18), (12, .slice A_a0 a0.length c_a0), (13, .int .i64 (a0.length : Int)), (14, .int .i64 x5)]) (by kernel_rfl) ?_
      refine OpsT.done ?_
      refine Qn.then ?_
      refine CodT.seq ?_
      obtain ⟨r2, h2, h1⟩ := bindS h1
      refine CodT.meet (fun a w => ∃ (x19 : Bool), x19 = r2 ∧ Fr 76 [(0, .slice A_a0 a0.length c_a0), (5, .string x3), (6, .int .i64 x4), (7, .int .i64 x5), (10, .string y17), (12, .slice A_a0 a0.length c_a0), (13, .int .i64 (a0.length : Int)), (14, .int .i64 x5), (41, .bool x19)] a ∧ Inv w0 Z w A) ?_ ?_
      ·
        refine CodT.regionL [0, 1, 2, 3, 4, 5, 6, 7, 8, 9, 10, 11, 12, 13, 14, 15, 16] (by kernel_rfl) ?_
        refine OpsT.pures (r := [3, 4, 5, 6, 7, 8, 9, 10, 11, 12, 13, 14, 15, 16]) [0, 1, 2] [0, 5, 6, 7, 9, 10, 12, 13, 14, 27] (S' := [(0, .slice A_a0 a0.length c_a0), (5, .string x3), (6, .int .i64 x4), (7, .int .i64 x5), (9, .slice A15 y14.length cp16), (10, .string y17), (12, .slice A_a0 a0.length c_a0), (13, .int .i64 (a0.length : Int)), (14, .int .i64 x5), (27, .bool (!y18))]) (by kernel_rfl) ?_
        by_cases hb20 : (!y18) = true
        · rw [if_pos hb20] at h2
          refine OpsT.keep [0, 5, 6, 7, 9, 10, 12, 13, 14, 27] (S' := [(0, .slice A_a0 a0.length c_a0), (5, .string x3), (6, .int .i64 x4), (7, .int .i64 x5), (9, .slice A15 y14.length cp16), (10, .string y17), (12, .slice A_a0 a0.length c_a0), (13, .int .i64 (a0.length : Int)), (14, .int .i64 x5), (27, .bool true)]) (by simp only [hb20]; kernel_rfl) ?_
          refine OpsT.pures (r := []) [3, 4, 5, 6, 7, 8, 9, 10, 11, 12, 13, 14, 15, 16] [0, 5, 6, 7, 10, 12, 13, 14, 41] (S' := [(0, .slice A_a0 a0.length c_a0), (5, .string x3), (6, .int .i64 x4), (7, .int .i64 x5), (10, .string y17), (12, .slice A_a0 a0.length c_a0), (13, .int .i64 (a0.length : Int)), (14, .int .i64 x5), (41, .bool true)]) (by kernel_rfl) ?_
          refine OpsT.done ?_
          have hI := hI.drop
          have e := someS h2
          subst e
          exact Qn.thenJ fun a ha => ⟨true, rfl, ha.keep [0, 5, 6, 7, 10, 12, 13, 14, 41] (by kernel_rfl), hI⟩
        · rw [if_neg hb20] at h2
          have hb20 : (!y18) = false := by simpa using hb20
          refine OpsT.keep [0, 5, 6, 7, 9, 10, 12, 13, 14, 27] (S' := [(0, .slice A_a0 a0.length c_a0), (5, .string x3), (6, .int .i64 x4), (7, .int .i64 x5), (9, .slice A15 y14.length cp16), (10, .string y17), (12, .slice A_a0 a0.length c_a0), (13, .int .i64 (a0.length : Int)), (14, .int .i64 x5), (27, .bool false)]) (by simp only [hb20]; kernel_rfl) ?_
          refine OpsT.pures (r := [4, 5, 6, 7, 8, 9, 10, 11, 12, 13, 14, 15, 16]) [3] [0, 5, 6, 7, 9, 10, 12, 13, 14, 27, 28] (S' := [(0, .slice A_a0 a0.length c_a0), (5, .string x3), (6, .int .i64 x4), (7, .int .i64 x5), (9, .slice A15 y14.length cp16), (10, .string y17), (12, .slice A_a0 a0.length c_a0), (13, .int .i64 (a0.length : Int)), (14, .int .i64 x5), (27, .bool false), (28, .slice A15 y14.length cp16)]) (by kernel_rfl) ?_
          obtain ⟨hg21, h2⟩ := guardS h2
          obtain ⟨g22, hA23, hr24, hl25⟩ := ownS_get hI hg21.1 hg21.2
          refine OpsT.cons (Does.yi (Yl.indexSlice (d := 29) (T := 23) (cc := cp16) (k := .i64) (j := 0) (g := g22) (o := 0) (by kernel_rfl) Go.Proofs.Try.underlying23 ty3 hA23 hg21.1 hg21.2) hI ?_)
          refine OpsT.cons (Does.yi (Yl.load (d := 30) (T := 3) (v := .int .i64 (gt y14 0)) (by kernel_rfl) (ldR ty3 (v := .int .i64 (gt y14 0)) 0 (fun w hC => hr24 w0 w _ hC) (by kernel_rfl))) hI ?_)
          refine OpsT.pures (r := [10, 11, 12, 13, 14, 15, 16]) [6, 7, 8, 9] [0, 5, 6, 7, 9, 10, 12, 13, 14, 34] (S' := [(0, .slice A_a0 a0.length c_a0), (5, .string x3), (6, .int .i64 x4), (7, .int .i64 x5), (9, .slice A15 y14.length cp16), (10, .string y17), (12, .slice A_a0 a0.length c_a0), (13, .int .i64 (a0.length : Int)), (14, .int .i64 x5), (34, .bool ((gt y14 0) != x5))]) (by kernel_rfl) ?_
          by_cases hb26 : ((gt y14 0) != x5) = true
          · rw [if_pos hb26] at h2
            refine OpsT.keep [0, 5, 6, 7, 9, 10, 12, 13, 14, 34] (S' := [(0, .slice A_a0 a0.length c_a0), (5, .string x3), (6, .int .i64 x4), (7, .int .i64 x5), (9, .slice A15 y14.length cp16), (10, .string y17), (12, .slice A_a0 a0.length c_a0), (13, .int .i64 (a0.length : Int)), (14, .int .i64 x5), (34, .bool true)]) (by simp only [hb26]; kernel_rfl) ?_
            refine OpsT.pures (r := []) [10, 11, 12, 13, 14, 15, 16] [0, 5, 6, 7, 10, 12, 13, 14, 41] (S' := [(0, .slice A_a0 a0.length c_a0), (5, .string x3), (6, .int .i64 x4), (7, .int .i64 x5), (10, .string y17), (12, .slice A_a0 a0.length c_a0), (13, .int .i64 (a0.length : Int)), (14, .int .i64 x5), (41, .bool true)]) (by kernel_rfl) ?_
            refine OpsT.done ?_
            have hI := hI.drop
            have e := someS h2
            subst e
            exact Qn.thenJ fun a ha => ⟨true, rfl, ha.keep [0, 5, 6, 7, 10, 12, 13, 14, 41] (by kernel_rfl), hI⟩
          · rw [if_neg hb26] at h2
            have hb26 : ((gt y14 0) != x5) = false := by simpa using hb26
            refine OpsT.keep [0, 5, 6, 7, 9, 10, 12, 13, 14, 34] (S' := [(0, .slice A_a0 a0.length c_a0), (5, .string x3), (6, .int .i64 x4), (7, .int .i64 x5), (9, .slice A15 y14.length cp16), (10, .string y17), (12, .slice A_a0 a0.length c_a0), (13, .int .i64 (a0.length : Int)), (14, .int .i64 x5), (34, .bool false)]) (by simp only [hb26]; kernel_rfl) ?_
            refine OpsT.pures (r := [11, 12, 13, 14, 15, 16]) [10] [0, 5, 6, 7, 10, 12, 13, 14, 34, 35] (S' := [(0, .slice A_a0 a0.length c_a0), (5, .string x3), (6, .int .i64 x4), (7, .int .i64 x5), (10, .string y17), (12, .slice A_a0 a0.length c_a0), (13, .int .i64 (a0.length : Int)), (14, .int .i64 x5), (34, .bool false), (35, .slice A15 y14.length cp16)]) (by kernel_rfl) ?_
            obtain ⟨hg27, h2⟩ := guardS h2
            obtain ⟨g28, hA29, hr30, hl31⟩ := ownS_get hI hg27.1 hg27.2
            refine OpsT.cons (Does.yi (Yl.indexSlice (d := 36) (T := 23) (cc := cp16) (k := .i64) (j := 1) (g := g28) (o := 0) (by kernel_rfl) Go.Proofs.Try.underlying23 ty3 hA29 hg27.1 hg27.2) hI ?_)
            refine OpsT.cons (Does.yi (Yl.load (d := 37) (T := 3) (v := .int .i64 (gt y14 1)) (by kernel_rfl) (ldR ty3 (v := .int .i64 (gt y14 1)) 0 (fun w hC => hr30 w0 w _ hC) (by kernel_rfl))) hI ?_)
            refine OpsT.pures (r := []) [13, 14, 15, 16] [0, 5, 6, 7, 10, 12, 13, 14, 41] (S' := [(0, .slice A_a0 a0.length c_a0), (5, .string x3), (6, .int .i64 x4), (7, .int .i64 x5), (10, .string y17), (12, .slice A_a0 a0.length c_a0), (13, .int .i64 (a0.length : Int)), (14, .int .i64 x5), (41, .bool ((gt y14 1) != (a0.length : Int)))]) (by kernel_rfl) ?_
            refine OpsT.done ?_
            have hI := hI.drop
            have e := someS h2
            subst e
            exact Qn.thenJ fun a ha => ⟨(gt y14 1) != (a0.length : Int), rfl, ha.keep [0, 5, 6, 7, 10, 12, 13, 14, 41] (by kernel_rfl), hI⟩
      ·
        rintro a w ⟨x19, rfl, ha, hI⟩
        try dsimp only at h1
        refine CodT.of ?_ ha
        by_cases hb32 : x19 = true
        · rw [if_pos hb32] at h1
          refine CodT.yes' (b := x19) (by kernel_rfl) hb32 ?_
          refine CodT.seq ?_
          refine CodT.regionL [0, 1, 2] (by kernel_rfl) ?_
          refine OpsT.pures (r := []) [0, 1, 2] [2, 3, 4] (S' := [(2, .string (⟨#[]⟩ : ByteArray)), (3, .int .i64 0), (4, .bool false)]) (by kernel_rfl) ?_
          refine OpsT.done ?_
          refine Qn.then ?_
          refine CodT.ret ?_
          refine Qn.ret_then ?_
          refine Qn.block_ret ?_
          refine Qn.ret_then ?_
          refine Qn.ret_then ?_
          refine Qn.block_ret ?_
          refine Qn.ret_then ?_
          refine Qn.ret_then ?_
          have e := someS h1
          subst e
          try dsimp only at h0
          have e := someS h0
          subst e
          refine Qn.keep [2, 3, 4] (S' := [(2, .string (⟨#[]⟩ : ByteArray)), (3, .int .i64 0), (4, .bool false)]) (by kernel_rfl) ?_
          exact post_ret (v := .tuple #[.string (⟨#[]⟩ : ByteArray), .int .i64 0, .bool false]) (fun a ha => RunRes.run (vs := [.string (⟨#[]⟩ : ByteArray), .int .i64 0, .bool false]) (.tmp (t := 2) (by kernel_rfl) (.tmp (t := 3) (by kernel_rfl) (.tmp (t := 4) (by kernel_rfl) .nil))) ha (by kernel_rfl)) ⟨rfl, hI⟩
        · rw [if_neg hb32] at h1
          refine CodT.no' (b := x19) (by kernel_rfl) (by simpa using hb32) ?_
          refine CodT.skip ?_
          refine Qn.then ?_
          obtain ⟨r2, h2, h1⟩ := bindS h1
          refine CodT.meet (fun a w => ∃ (x33 : Int), .inr x33 = r2 ∧ Fr 76 [(0, .slice A_a0 a0.length c_a0), (5, .string x3), (6, .int .i64 x33), (10, .string y17), (12, .slice A_a0 a0.length c_a0), (13, .int .i64 (a0.length : Int)), (14, .int .i64 x5)] a ∧ Inv w0 Z w A) ?_ ?_
          ·
            refine CodT.block ?_
            refine CodT.seq ?_
            refine CodT.regionL [0, 1, 2] (by kernel_rfl) ?_
            refine OpsT.pures (r := []) [0, 1, 2] [0, 5, 6, 7, 10, 12, 13, 14, 42] (S' := [(0, .slice A_a0 a0.length c_a0), (5, .string x3), (6, .int .i64 x4), (7, .int .i64 x5), (10, .string y17), (12, .slice A_a0 a0.length c_a0), (13, .int .i64 (a0.length : Int)), (14, .int .i64 x5), (42, .bool (x5 == 0))]) (by kernel_rfl) ?_
            refine OpsT.done ?_
            refine Qn.then ?_
            by_cases hb34 : (x5 == 0) = true
            · rw [if_pos hb34] at h2
              refine CodT.yes' (b := x5 == 0) (by kernel_rfl) hb34 ?_
              refine CodT.regionL [0, 1, 2] (by kernel_rfl) ?_
              refine OpsT.pures (r := []) [0, 1, 2] [0, 5, 6, 10, 12, 13, 14] (S' := [(0, .slice A_a0 a0.length c_a0), (5, .string x3), (6, .int .i64 (y17.size : Int)), (10, .string y17), (12, .slice A_a0 a0.length c_a0), (13, .int .i64 (a0.length : Int)), (14, .int .i64 x5)]) (by kernel_rfl) ?_
              refine OpsT.done ?_
              refine Qn.block_normal ?_
              have e := someS h2
              subst e
              exact Qn.thenJ fun a ha => ⟨(y17.size : Int), rfl, ha.keep [0, 5, 6, 10, 12, 13, 14] (by kernel_rfl), hI⟩
            · rw [if_neg hb34] at h2
              refine CodT.no' (b := x5 == 0) (by kernel_rfl) (by simpa using hb34) ?_
              obtain ⟨r3, h3, h2⟩ := bindS h2
              refine CodT.meet (fun a w => ∃ (x35 : Bool), x35 = r3 ∧ Fr 76 [(0, .slice A_a0 a0.length c_a0), (5, .string x3), (6, .int .i64 x4), (10, .string y17), (12, .slice A_a0 a0.length c_a0), (13, .int .i64 (a0.length : Int)), (14, .int .i64 x5), (47, .bool x35)] a ∧ Inv w0 Z w A) ?_ ?_
              ·
                refine CodT.regionL [0, 1, 2, 3, 4, 5, 6, 7, 8, 9, 10, 11, 12, 13, 14, 15, 16, 17, 18, 19, 20, 21, 22] (by kernel_rfl) ?_
                refine OpsT.pures (r := [5, 6, 7, 8, 9, 10, 11, 12, 13, 14, 15, 16, 17, 18, 19, 20, 21, 22]) [0, 1, 2, 3, 4] [0, 5, 6, 7, 10, 12, 13, 14, 52] (S' := [(0, .slice A_a0 a0.length c_a0), (5, .string x3), (6, .int .i64 x4), (7, .int .i64 x5), (10, .string y17), (12, .slice A_a0 a0.length c_a0), (13, .int .i64 (a0.length : Int)), (14, .int .i64 x5), (52, .bool (decide ((y17.size : Int) > x4)))]) (by kernel_rfl) ?_
                by_cases hb36 : (decide ((y17.size : Int) > x4)) = true
                · rw [if_pos hb36] at h3
                  refine OpsT.keep [0, 5, 6, 7, 10, 12, 13, 14, 52] (S' := [(0, .slice A_a0 a0.length c_a0), (5, .string x3), (6, .int .i64 x4), (7, .int .i64 x5), (10, .string y17), (12, .slice A_a0 a0.length c_a0), (13, .int .i64 (a0.length : Int)), (14, .int .i64 x5), (52, .bool true)]) (by simp only [hb36]; kernel_rfl) ?_
                  refine OpsT.pures (r := []) [5, 6, 7, 8, 9, 10, 11, 12, 13, 14, 15, 16, 17, 18, 19, 20, 21, 22] [0, 5, 6, 10, 12, 13, 14, 47] (S' := [(0, .slice A_a0 a0.length c_a0), (5, .string x3), (6, .int .i64 x4), (10, .string y17), (12, .slice A_a0 a0.length c_a0), (13, .int .i64 (a0.length : Int)), (14, .int .i64 x5), (47, .bool true)]) (by kernel_rfl) ?_
                  refine OpsT.done ?_
                  have e := someS h3
                  subst e
                  exact Qn.thenJ fun a ha => ⟨true, rfl, ha.keep [0, 5, 6, 10, 12, 13, 14, 47] (by kernel_rfl), hI⟩
                · rw [if_neg hb36] at h3
                  have hb36 : (decide ((y17.size : Int) > x4)) = false := by simpa using hb36
                  refine OpsT.keep [0, 5, 6, 7, 10, 12, 13, 14, 52] (S' := [(0, .slice A_a0 a0.length c_a0), (5, .string x3), (6, .int .i64 x4), (7, .int .i64 x5), (10, .string y17), (12, .slice A_a0 a0.length c_a0), (13, .int .i64 (a0.length : Int)), (14, .int .i64 x5), (52, .bool false)]) (by simp only [hb36]; kernel_rfl) ?_
                  refine OpsT.pures (r := [10, 11, 12, 13, 14, 15, 16, 17, 18, 19, 20, 21, 22]) [5, 6, 7, 8, 9] [0, 5, 6, 7, 10, 12, 13, 14, 57] (S' := [(0, .slice A_a0 a0.length c_a0), (5, .string x3), (6, .int .i64 x4), (7, .int .i64 x5), (10, .string y17), (12, .slice A_a0 a0.length c_a0), (13, .int .i64 (a0.length : Int)), (14, .int .i64 x5), (57, .bool ((y17.size : Int) == 0))]) (by kernel_rfl) ?_
                  by_cases hb37 : ((y17.size : Int) == 0) = true
                  · rw [if_pos hb37] at h3
                    refine OpsT.keep [0, 5, 6, 7, 10, 12, 13, 14, 57] (S' := [(0, .slice A_a0 a0.length c_a0), (5, .string x3), (6, .int .i64 x4), (7, .int .i64 x5), (10, .string y17), (12, .slice A_a0 a0.length c_a0), (13, .int .i64 (a0.length : Int)), (14, .int .i64 x5), (57, .bool true)]) (by simp only [hb37]; kernel_rfl) ?_
                    refine OpsT.pures (r := []) [10, 11, 12, 13, 14, 15, 16, 17, 18, 19, 20, 21, 22] [0, 5, 6, 10, 12, 13, 14, 47] (S' := [(0, .slice A_a0 a0.length c_a0), (5, .string x3), (6, .int .i64 x4), (10, .string y17), (12, .slice A_a0 a0.length c_a0), (13, .int .i64 (a0.length : Int)), (14, .int .i64 x5), (47, .bool true)]) (by kernel_rfl) ?_
                    refine OpsT.done ?_
                    have e := someS h3
                    subst e
                    exact Qn.thenJ fun a ha => ⟨true, rfl, ha.keep [0, 5, 6, 10, 12, 13, 14, 47] (by kernel_rfl), hI⟩
                  · rw [if_neg hb37] at h3
                    have hb37 : ((y17.size : Int) == 0) = false := by simpa using hb37
                    refine OpsT.keep [0, 5, 6, 7, 10, 12, 13, 14, 57] (S' := [(0, .slice A_a0 a0.length c_a0), (5, .string x3), (6, .int .i64 x4), (7, .int .i64 x5), (10, .string y17), (12, .slice A_a0 a0.length c_a0), (13, .int .i64 (a0.length : Int)), (14, .int .i64 x5), (57, .bool false)]) (by simp only [hb37]; kernel_rfl) ?_
                    refine OpsT.pures (r := [16, 17, 18, 19, 20, 21, 22]) [10, 11, 12, 13, 14, 15] [0, 5, 6, 10, 12, 13, 14, 57, 63] (S' := [(0, .slice A_a0 a0.length c_a0), (5, .string x3), (6, .int .i64 x4), (10, .string y17), (12, .slice A_a0 a0.length c_a0), (13, .int .i64 (a0.length : Int)), (14, .int .i64 x5), (57, .bool false), (63, .bool (decide (x5 < (wi64 ((a0.length : Int) - 1)))))]) (by kernel_rfl) ?_
                    by_cases hb38 : (decide (x5 < (wi64 ((a0.length : Int) - 1)))) = true
                    · rw [if_pos hb38] at h3
                      refine OpsT.keep [0, 5, 6, 10, 12, 13, 14, 57, 63] (S' := [(0, .slice A_a0 a0.length c_a0), (5, .string x3), (6, .int .i64 x4), (10, .string y17), (12, .slice A_a0 a0.length c_a0), (13, .int .i64 (a0.length : Int)), (14, .int .i64 x5), (57, .bool false), (63, .bool true)]) (by simp only [hb38]; kernel_rfl) ?_
                      refine OpsT.pures (r := []) [16, 17, 18, 19, 20, 21, 22] [0, 5, 6, 10, 12, 13, 14, 47] (S' := [(0, .slice A_a0 a0.length c_a0), (5, .string x3), (6, .int .i64 x4), (10, .string y17), (12, .slice A_a0 a0.length c_a0), (13, .int .i64 (a0.length : Int)), (14, .int .i64 x5), (47, .bool (decide ((y17.size : Int) < x4)))]) (by kernel_rfl) ?_
                      refine OpsT.done ?_
                      have e := someS h3
                      subst e
                      exact Qn.thenJ fun a ha => ⟨decide ((y17.size : Int) < x4), rfl, ha.keep [0, 5, 6, 10, 12, 13, 14, 47] (by kernel_rfl), hI⟩
                    · rw [if_neg hb38] at h3
                      have hb38 : (decide (x5 < (wi64 ((a0.length : Int) - 1)))) = false := by simpa using hb38
                      refine OpsT.keep [0, 5, 6, 10, 12, 13, 14, 57, 63] (S' := [(0, .slice A_a0 a0.length c_a0), (5, .string x3), (6, .int .i64 x4), (10, .string y17), (12, .slice A_a0 a0.length c_a0), (13, .int .i64 (a0.length : Int)), (14, .int .i64 x5), (57, .bool false), (63, .bool false)]) (by simp only [hb38]; kernel_rfl) ?_
                      refine OpsT.pures (r := []) [16, 17, 18, 19, 20, 21, 22] [0, 5, 6, 10, 12, 13, 14, 47] (S' := [(0, .slice A_a0 a0.length c_a0), (5, .string x3), (6, .int .i64 x4), (10, .string y17), (12, .slice A_a0 a0.length c_a0), (13, .int .i64 (a0.length : Int)), (14, .int .i64 x5), (47, .bool false)]) (by kernel_rfl) ?_
                      refine OpsT.done ?_
                      have e := someS h3
                      subst e
                      exact Qn.thenJ fun a ha => ⟨false, rfl, ha.keep [0, 5, 6, 10, 12, 13, 14, 47] (by kernel_rfl), hI⟩
              ·
                rintro a w ⟨x35, rfl, ha, hI⟩
                try dsimp only at h2
                refine CodT.of ?_ ha
                by_cases hb39 : x35 = true
                · rw [if_pos hb39] at h2
                  refine CodT.yes' (b := x35) (by kernel_rfl) hb39 ?_
                  refine CodT.seq ?_
                  refine CodT.regionL [0, 1, 2] (by kernel_rfl) ?_
                  refine OpsT.pures (r := []) [0, 1, 2] [2, 3, 4] (S' := [(2, .string (⟨#[]⟩ : ByteArray)), (3, .int .i64 0), (4, .bool false)]) (by kernel_rfl) ?_
                  refine OpsT.done ?_
                  refine Qn.then ?_
                  refine CodT.ret ?_
                  refine Qn.block_ret ?_
                  refine Qn.ret_then ?_
                  refine Qn.block_ret ?_
                  refine Qn.ret_then ?_
                  refine Qn.ret_then ?_
                  refine Qn.block_ret ?_
                  refine Qn.ret_then ?_
                  refine Qn.ret_then ?_
                  have e := someS h2
                  subst e
                  try dsimp only at h1
                  have e := someS h1
                  subst e
                  try dsimp only at h0
                  have e := someS h0
                  subst e
                  refine Qn.keep [2, 3, 4] (S' := [(2, .string (⟨#[]⟩ : ByteArray)), (3, .int .i64 0), (4, .bool false)]) (by kernel_rfl) ?_
                  exact post_ret (v := .tuple #[.string (⟨#[]⟩ : ByteArray), .int .i64 0, .bool false]) (fun a ha => RunRes.run (vs := [.string (⟨#[]⟩ : ByteArray), .int .i64 0, .bool false]) (.tmp (t := 2) (by kernel_rfl) (.tmp (t := 3) (by kernel_rfl) (.tmp (t := 4) (by kernel_rfl) .nil))) ha (by kernel_rfl)) ⟨rfl, hI⟩
                · rw [if_neg hb39] at h2
                  refine CodT.no' (b := x35) (by kernel_rfl) (by simpa using hb39) ?_
                  refine CodT.skip ?_
                  refine Qn.block_normal ?_
                  have e := someS h2
                  subst e
                  exact Qn.thenJ fun a ha => ⟨x4, rfl, ha.keep [0, 5, 6, 10, 12, 13, 14] (by kernel_rfl), hI⟩
          ·
            rintro a w ⟨x33, rfl, ha, hI⟩
            try dsimp only at h1
            refine CodT.of ?_ ha
            refine CodT.regionL [0, 1, 2, 3] (by kernel_rfl) ?_
            refine OpsT.pures (r := [2, 3]) [0, 1] [0, 6, 12, 13, 14, 70, 71] (S' := [(0, .slice A_a0 a0.length c_a0), (6, .int .i64 x33), (12, .slice A_a0 a0.length c_a0), (13, .int .i64 (a0.length : Int)), (14, .int .i64 x5), (70, .string x3), (71, .string y17)]) (by kernel_rfl) ?_
            obtain ⟨hg40, h1⟩ := guardS h1
            refine OpsT.cons (Does.yi (Yl.cat (d := 72) (T := 9) (x := x3) (y := y17) (by kernel_rfl) hg40) hI ?_)
            refine OpsT.pures (r := []) [3] [0, 5, 6, 12, 13, 14] (S' := [(0, .slice A_a0 a0.length c_a0), (5, .string (x3 ++ y17)), (6, .int .i64 x33), (12, .slice A_a0 a0.length c_a0), (13, .int .i64 (a0.length : Int)), (14, .int .i64 x5)]) (by kernel_rfl) ?_
            refine OpsT.done ?_
            refine Qn.block_normal ?_
            refine Qn.then ?_
            refine CodT.regionL [0, 1] (by kernel_rfl) ?_
            refine OpsT.pures (r := []) [0, 1] [0, 5, 6, 12, 13, 14] (S' := [(0, .slice A_a0 a0.length c_a0), (5, .string (x3 ++ y17)), (6, .int .i64 x33), (12, .slice A_a0 a0.length c_a0), (13, .int .i64 (a0.length : Int)), (14, .int .i64 (wi64 (x5 + 1)))]) (by kernel_rfl) ?_
            refine OpsT.done ?_
            exact Qn.thenJ fun a ha => ⟨k, Nat.lt_succ_self k, x3 ++ y17, x33, wi64 (x5 + 1), h1, ha.keep [0, 5, 6, 12, 13, 14] (by kernel_rfl), hI⟩
    · rw [if_neg hb6] at h1
      refine CodT.no' (b := decide (x5 < (a0.length : Int))) (by kernel_rfl) (by simpa using hb6) ?_
      refine CodT.exit ?_
      refine Qn.exit_then ?_
      refine Qn.exit_then ?_
      refine Qn.block ?_
      have e := someS h1
      subst e
      exact Qn.thenJ fun a ha => ⟨x3, x4, rfl, ha.keep [5, 6] (by kernel_rfl), hI⟩
  ·
    rintro a w ⟨x1, x2, rfl, ha, hI⟩
    try dsimp only at h0
    refine Qn.of ?_ ha
    refine Qn.then ?_
    refine CodT.seq ?_
    refine CodT.regionL [0, 1, 2, 3, 4] (by kernel_rfl) ?_
    refine OpsT.pures (r := []) [0, 1, 2, 3, 4] [2, 3, 4] (S' := [(2, .string x1), (3, .int .i64 x2), (4, .bool true)]) (by kernel_rfl) ?_
    refine OpsT.done ?_
    refine Qn.then ?_
    refine CodT.ret ?_
    have e := someS h0
    subst e
    refine Qn.keep [2, 3, 4] (S' := [(2, .string x1), (3, .int .i64 x2), (4, .bool true)]) (by kernel_rfl) ?_
    exact post_ret (v := .tuple #[.string x1, .int .i64 x2, .bool true]) (fun a ha => RunRes.run (vs := [.string x1, .int .i64 x2, .bool true]) (.tmp (t := 2) (by kernel_rfl) (.tmp (t := 3) (by kernel_rfl) (.tmp (t := 4) (by kernel_rfl) .nil))) ha (by kernel_rfl)) ⟨rfl, hI⟩
set_option maxRecDepth 100000 in
set_option maxHeartbeats 4000000 in
/-- cenotaph/root.Get$1 -/
theorem c54 (w0 w : World) (Z : Hp) (A : HP) (hI : Inv w0 Z w A) (A_a0 : Option Addr) (c_a0 : Nat) (a0 : (List Int)) (hr_a0 : RdS Z (cI .i64) 1 A_a0 c_a0 a0) (r : RootEntry) (h0 : root_Get_1 a0 = some r) :
    Calls prog 54 #[.slice A_a0 a0.length c_a0] w (fun e w' => e = .returned (.agg (c_RootEntry r).toArray) ∧ Inv w0 Z w' A) := by
  have e4 := calls_intro (R := (fun e w' => e = .returned (.agg (c_RootEntry r).toArray) ∧ Inv w0 Z w' A)) (w := w) (args := [.slice A_a0 a0.length c_a0]) (fn := Go.Proofs.Try.f54) 16 Go.Proofs.Try.func54 (by rfl) Go.Proofs.Try.ntmps54 (by kernel_rfl)
  refine e4 ?_
  clear e4
  unfold root_Get_1 at h0
  refine CodT.seq ?_
  refine CodT.regionL [0] (by kernel_rfl) ?_
  refine OpsT.cons (Does.allocL (d := 2) (T := 47) (c_RootEntry (RootEntry.mk 0 0 0 0)) (by kernel_rfl) ty47 hI (by kernel_rfl) ?_)
  intro b1 w hI
  refine OpsT.done ?_
  refine Qn.then ?_
  refine CodT.seq ?_
  refine CodT.drawI (n := 14) [13] (by kernel_rfl) (by kernel_rfl) hI ?_
  intro w hI
  refine GmT.p' 0 3 (.slice A_a0 a0.length c_a0) (by kernel_rfl) (by kernel_rfl) ?_
  refine GmT.p' 3 6 (.slice A_a0 a0.length c_a0) (by kernel_rfl) (by kernel_rfl) ?_
  refine GmT.p' 6 9 (.slice A_a0 a0.length c_a0) (by kernel_rfl) (by kernel_rfl) ?_
  refine GmT.p' 9 12 (.slice A_a0 a0.length c_a0) (by kernel_rfl) (by kernel_rfl) ?_
  obtain ⟨hg2, h0⟩ := guardS h0
  obtain ⟨g3, o7, hA4, hr5, hl6⟩ := RdS.get hr_a0 hg2.1 hg2.2
  refine GmT.r (i := 1) 2 (by kernel_rfl) (by kernel_rfl) (Yl.indexSlice (d := 4) (T := 23) (cc := c_a0) (k := .i64) (j := 0) (g := g3) (o := o7) (by kernel_rfl) Go.Proofs.Try.underlying23 ty3 hA4 hg2.1 hg2.2) hI ?_
  refine GmT.r (i := 2) 2 (by kernel_rfl) (by kernel_rfl) (Yl.load (d := 5) (T := 3) (v := .int .i64 (gt a0 0)) (by kernel_rfl) (ldR ty3 (v := .int .i64 (gt a0 0)) 0 (fun w hC => hr5 w0 w _ hC) (by kernel_rfl))) hI ?_
  obtain ⟨hg8, h0⟩ := guardS h0
  obtain ⟨g9, o13, hA10, hr11, hl12⟩ := RdS.get hr_a0 hg8.1 hg8.2
  refine GmT.r (i := 4) 2 (by kernel_rfl) (by kernel_rfl) (Yl.indexSlice (d := 7) (T := 23) (cc := c_a0) (k := .i64) (j := 1) (g := g9) (o := o13) (by kernel_rfl) Go.Proofs.Try.underlying23 ty3 hA10 hg8.1 hg8.2) hI ?_
  refine GmT.r (i := 5) 2 (by kernel_rfl) (by kernel_rfl) (Yl.load (d := 8) (T := 3) (v := .int .i64 (gt a0 1)) (by kernel_rfl) (ldR ty3 (v := .int .i64 (gt a0 1)) 0 (fun w hC => hr11 w0 w _ hC) (by kernel_rfl))) hI ?_
  obtain ⟨hg14, h0⟩ := guardS h0
  obtain ⟨g15, o19, hA16, hr17, hl18⟩ := RdS.get hr_a0 hg14.1 hg14.2
  refine GmT.r (i := 7) 2 (by kernel_rfl) (by kernel_rfl) (Yl.indexSlice (d := 10) (T := 23) (cc := c_a0) (k := .i64) (j := 2) (g := g15) (o := o19) (by kernel_rfl) Go.Proofs.Try.underlying23 ty3 hA16 hg14.1 hg14.2) hI ?_
  refine GmT.r (i := 8) 2 (by kernel_rfl) (by kernel_rfl) (Yl.load (d := 11) (T := 3) (v := .int .i64 (gt a0 2)) (by kernel_rfl) (ldR ty3 (v := .int .i64 (gt a0 2)) 0 (fun w hC => hr17 w0 w _ hC) (by kernel_rfl))) hI ?_
  obtain ⟨hg20, h0⟩ := guardS h0
  obtain ⟨g21, o25, hA22, hr23, hl24⟩ := RdS.get hr_a0 hg20.1 hg20.2
  refine GmT.r (i := 10) 2 (by kernel_rfl) (by kernel_rfl) (Yl.indexSlice (d := 13) (T := 23) (cc := c_a0) (k := .i64) (j := 3) (g := g21) (o := o25) (by kernel_rfl) Go.Proofs.Try.underlying23 ty3 hA22 hg20.1 hg20.2) hI ?_
  refine GmT.r (i := 11) 2 (by kernel_rfl) (by kernel_rfl) (Yl.load (d := 14) (T := 3) (v := .int .i64 (gt a0 3)) (by kernel_rfl) (ldR ty3 (v := .int .i64 (gt a0 3)) 0 (fun w hC => hr23 w0 w _ hC) (by kernel_rfl))) hI ?_
  refine GmT.p' 12 15 (.agg (c_RootEntry (RootEntry.mk (gt a0 0) (gt a0 1) (gt a0 2) (gt a0 3))).toArray) (by kernel_rfl) (by kernel_rfl) ?_
  refine GmT.o (i := 13) (by kernel_rfl) (Does.storeLit (T := 47) (b := b1) (o := 0) (v := .agg (c_RootEntry (RootEntry.mk (gt a0 0) (gt a0 1) (gt a0 2) (gt a0 3))).toArray) (l := c_RootEntry (RootEntry.mk 0 0 0 0)) (vs := c_RootEntry (RootEntry.mk (gt a0 0) (gt a0 1) (gt a0 2) (gt a0 3))) (L' := c_RootEntry (RootEntry.mk (gt a0 0) (gt a0 1) (gt a0 2) (gt a0 3))) (by kernel_rfl) ty47 hI (by kernel_rfl) (by kernel_rfl) (by kernel_rfl) (by kernel_rfl) (by kernel_rfl) ?_)
  intro w hI
  refine ⟨fun h => absurd h (by decide), ?_⟩
  refine GmT.done (by kernel_rfl) ?_
  refine Qn.then ?_
  refine CodT.ret ?_
  have hL26 := (ldBN ty47 (l := c_RootEntry (RootEntry.mk (gt a0 0) (gt a0 1) (gt a0 2) (gt a0 3))) (o := 0) (cs := c_RootEntry (RootEntry.mk (gt a0 0) (gt a0 1) (gt a0 2) (gt a0 3))) (ent_refl _) (by kernel_rfl) (whole _ _ (by kernel_rfl))) w hI
  have hI := hI.drop
  have e := someS h0
  subst e
  refine Qn.keep [2] (S' := [(2, .pointer (some ⟨b1, 0, none⟩))]) (by kernel_rfl) ?_
  exact post_ret (v := .agg (c_RootEntry (RootEntry.mk (gt a0 0) (gt a0 1) (gt a0 2) (gt a0 3))).toArray) (fun a ha => RunRes.run (vs := [.agg (c_RootEntry (RootEntry.mk (gt a0 0) (gt a0 1) (gt a0 2) (gt a0 3))).toArray]) (.cell (t := 2) (T := 47) (ad := ⟨b1, 0, none⟩) (by kernel_rfl) hL26 .nil) ha (by kernel_rfl)) ⟨rfl, hI⟩
set_option maxRecDepth 100000 in
set_option maxHeartbeats 4000000 in
/-- cenotaph/root.counted[cenotaph/root.Entry] -/
theorem c53 (w0 w : World) (Z : Hp) (A : HP) (hI : Inv w0 Z w A) (a0 : ByteArray) (a1 : Int) (a2 : Int) (r : ((List RootEntry) × ByteArray × Bool)) (h0 : root_counted_rootEntry__root_Get_1 a0 a1 a2 = some r) :
    Calls prog 53 #[.string a0, .int .i64 a1, .int .i64 a2, .func (.func 54) #[] #[]] w (fun e w' => ∃ (A1 : Option Addr) (c1 : Nat), e = .returned (.tuple #[.slice A1 r.1.length c1, .string r.2.1, .bool r.2.2]) ∧ Inv w0 Z w' (star (ownS 47 c_RootEntry 4 A1 c1 r.1) A)) := by
  have e4 := calls_intro (R := (fun e w' => ∃ (A1 : Option Addr) (c1 : Nat), e = .returned (.tuple #[.slice A1 r.1.length c1, .string r.2.1, .bool r.2.2]) ∧ Inv w0 Z w' (star (ownS 47 c_RootEntry 4 A1 c1 r.1) A))) (w := w) (args := [.string a0, .int .i64 a1, .int .i64 a2, .func (.func 54) #[] #[]]) (fn := Go.Proofs.Try.f53) 52 Go.Proofs.Try.func53 (by rfl) Go.Proofs.Try.ntmps53 (by kernel_rfl)
  refine e4 ?_
  clear e4
  unfold root_counted_rootEntry__root_Get_1 at h0
  refine CodT.seq ?_
  refine CodT.regionL [0, 1, 2] (by kernel_rfl) ?_
  refine OpsT.pures (r := []) [0, 1, 2] [0, 1, 2, 3] (S' := [(0, .string a0), (1, .int .i64 a1), (2, .int .i64 a2), (3, .func (.func 54) #[] #[])]) (by kernel_rfl) ?_
  refine OpsT.done ?_
  refine Qn.then ?_
  refine CodT.seq ?_
  refine CodT.regionL [0, 1, 2, 3, 4, 5, 6, 7, 8] (by kernel_rfl) ?_
  refine OpsT.pures (r := [1, 2, 3, 4, 5, 6, 7, 8]) [0] [1, 2, 3, 18] (S' := [(1, .int .i64 a1), (2, .int .i64 a2), (3, .func (.func 54) #[] #[]), (18, .string a0)]) (by kernel_rfl) ?_
  obtain ⟨⟨y2, y3, y4⟩, hc1, h0⟩ := bindS h0
  try dsimp only at h0
  refine OpsT.cons (Does.call (d := some 19) (n := 82) (vs := [.string a0]) (by kernel_rfl) en82 (c82 w0 w _ _ hI a0 _ hc1) ?_)
  rintro e w ⟨rfl, hI⟩
  refine ⟨_, rfl, ?_⟩
  refine OpsT.pures (r := []) [2, 3, 4, 5, 6, 7, 8] [0, 1, 2, 3, 11, 12] (S' := [(0, .string y3), (1, .int .i64 a1), (2, .int .i64 a2), (3, .func (.func 54) #[] #[]), (11, .int .i64 y2), (12, .bool y4)]) (by kernel_rfl) ?_
  refine OpsT.done ?_
  refine Qn.then ?_
  refine CodT.seq ?_
  obtain ⟨r1, h1, h0⟩ := bindS h0
  refine CodT.meet (fun a w => ∃ (x5 : Bool), x5 = r1 ∧ Fr 52 [(0, .string y3), (2, .int .i64 a2), (3, .func (.func 54) #[] #[]), (11, .int .i64 y2), (29, .bool x5)] a ∧ Inv w0 Z w A) ?_ ?_
  ·
    refine CodT.regionL [0, 1, 2, 3, 4, 5, 6] (by kernel_rfl) ?_
    refine OpsT.pures (r := [3, 4, 5, 6]) [0, 1, 2] [0, 1, 2, 3, 11, 25] (S' := [(0, .string y3), (1, .int .i64 a1), (2, .int .i64 a2), (3, .func (.func 54) #[] #[]), (11, .int .i64 y2), (25, .bool (!y4))]) (by kernel_rfl) ?_
    by_cases hb6 : (!y4) = true
    · rw [if_pos hb6] at h1
      refine OpsT.keep [0, 1, 2, 3, 11, 25] (S' := [(0, .string y3), (1, .int .i64 a1), (2, .int .i64 a2), (3, .func (.func 54) #[] #[]), (11, .int .i64 y2), (25, .bool true)]) (by simp only [hb6]; kernel_rfl) ?_
      refine OpsT.pures (r := []) [3, 4, 5, 6] [0, 2, 3, 11, 29] (S' := [(0, .string y3), (2, .int .i64 a2), (3, .func (.func 54) #[] #[]), (11, .int .i64 y2), (29, .bool true)]) (by kernel_rfl) ?_
      refine OpsT.done ?_
      have e := someS h1
      subst e
      exact Qn.thenJ fun a ha => ⟨true, rfl, ha.keep [0, 2, 3, 11, 29] (by kernel_rfl), hI⟩
    · rw [if_neg hb6] at h1
      have hb6 : (!y4) = false := by simpa using hb6
      refine OpsT.keep [0, 1, 2, 3, 11, 25] (S' := [(0, .string y3), (1, .int .i64 a1), (2, .int .i64 a2), (3, .func (.func 54) #[] #[]), (11, .int .i64 y2), (25, .bool false)]) (by simp only [hb6]; kernel_rfl) ?_
      refine OpsT.pures (r := []) [3, 4, 5, 6] [0, 2, 3, 11, 29] (S' := [(0, .string y3), (2, .int .i64 a2), (3, .func (.func 54) #[] #[]), (11, .int .i64 y2), (29, .bool (decide (y2 > a1)))]) (by kernel_rfl) ?_
      refine OpsT.done ?_
      have e := someS h1
      subst e
      exact Qn.thenJ fun a ha => ⟨decide (y2 > a1), rfl, ha.keep [0, 2, 3, 11, 29] (by kernel_rfl), hI⟩
  ·
    rintro a w ⟨x5, rfl, ha, hI⟩
    try dsimp only at h0
    refine CodT.of ?_ ha
    by_cases hb7 : x5 = true
    · rw [if_pos hb7] at h0
      refine CodT.yes' (b := x5) (by kernel_rfl) hb7 ?_
      refine CodT.seq ?_
      refine CodT.regionL [0, 1, 2] (by kernel_rfl) ?_
      refine OpsT.pures (r := []) [0, 1, 2] [8, 9, 10] (S' := [(8, .slice none 0 0), (9, .string (⟨#[]⟩ : ByteArray)), (10, .bool false)]) (by kernel_rfl) ?_
      refine OpsT.done ?_
      refine Qn.then ?_
      refine CodT.ret ?_
      refine Qn.ret_then ?_
      have hI := ownS_nil (α := RootEntry) hI 47 c_RootEntry 4
      have e := someS h0
      subst e
      refine Qn.keep [8, 9, 10] (S' := [(8, .slice none 0 0), (9, .string (⟨#[]⟩ : ByteArray)), (10, .bool false)]) (by kernel_rfl) ?_
      exact post_ret (v := .tuple #[.slice none 0 0, .string (⟨#[]⟩ : ByteArray), .bool false]) (fun a ha => RunRes.run (vs := [.slice none 0 0, .string (⟨#[]⟩ : ByteArray), .bool false]) (.tmp (t := 8) (by kernel_rfl) (.tmp (t := 9) (by kernel_rfl) (.tmp (t := 10) (by kernel_rfl) .nil))) ha (by kernel_rfl)) ⟨none, 0, rfl, hI⟩
    · rw [if_neg hb7] at h0
      refine CodT.no' (b := x5) (by kernel_rfl) (by simpa using hb7) ?_
      refine CodT.skip ?_
      refine Qn.then ?_
      refine CodT.seq ?_
      refine CodT.regionL [0] (by kernel_rfl) ?_
      refine OpsT.pures (r := []) [0] [0, 2, 3, 11, 13] (S' := [(0, .string y3), (2, .int .i64 a2), (3, .func (.func 54) #[] #[]), (11, .int .i64 y2), (13, .slice none 0 0)]) (by kernel_rfl) ?_
      refine OpsT.done ?_
      refine Qn.then ?_
      refine CodT.seq ?_
      refine CodT.seq ?_
      refine CodT.regionL [0, 1] (by kernel_rfl) ?_
      refine OpsT.pures (r := []) [0, 1] [0, 2, 3, 13, 30, 31] (S' := [(0, .string y3), (2, .int .i64 a2), (3, .func (.func 54) #[] #[]), (13, .slice none 0 0), (30, .int .i64 y2), (31, .int .i64 0)]) (by kernel_rfl) ?_
      refine OpsT.done ?_
      refine Qn.then ?_
      obtain ⟨r1, h1, h0⟩ := bindS h0
      refine CodT.meet1 (fun a w => ∃ (x10 : ByteArray) (x11 : (List RootEntry)) (Z8 : Hp) (A12 : Option Addr) (cp13 : Nat), .inr (x10, x11) = r1 ∧ Fr 52 [(0, .string x10), (13, .slice A12 x11.length cp13)] a ∧ Inv w0 Z8 w (star (ownS 47 c_RootEntry 4 A12 cp13 x11) A) ∧ Z.le Z8) ?_ ?_
      ·
        refine CodT.block ?_
        have hI := ownS_nil (α := RootEntry) hI 47 c_RootEntry 4
        refine (fun a ha => wp_loopN (fun k a w => ∃ (x16 : ByteArray) (x17 : (List RootEntry)) (x20 : Int) (Z14 : Hp) (A18 : Option Addr) (cp19 : Nat), root_counted_rootEntry__root_Get_1.l0 y2 a2 k x16 x17 x20 = some r1 ∧ Fr 52 [(0, .string x16), (2, .int .i64 a2), (3, .func (.func 54) #[] #[]), (13, .slice A18 x17.length cp19), (30, .int .i64 y2), (31, .int .i64 x20)] a ∧ Inv w0 Z14 w (star (ownS 47 c_RootEntry 4 A18 cp19 x17) A) ∧ Z.le Z14) ?_ FU a w ⟨y3, ([] : List RootEntry), 0, Z, none, 0, h1, ha.keep [0, 2, 3, 13, 30, 31] (by kernel_rfl), hI, (Hp.le_refl _)⟩)
        clear h1 hI
        rintro k a w ⟨x16, x17, x20, Z14, A18, cp19, h1, ha, hI, hle15⟩
        rcases k with _ | k
        · cases h1
        simp only [root_counted_rootEntry__root_Get_1.l0] at h1
        refine CodT.of ?_ ha
        refine CodT.seq ?_
        refine CodT.regionL [0] (by kernel_rfl) ?_
        refine OpsT.pures (r := []) [0] [0, 2, 3, 13, 30, 31, 32] (S' := [(0, .string x16), (2, .int .i64 a2), (3, .func (.func 54) #[] #[]), (13, .slice A18 x17.length cp19), (30, .int .i64 y2), (31, .int .i64 x20), (32, .bool (decide (x20 < y2)))]) (by kernel_rfl) ?_
        refine OpsT.done ?_
        refine Qn.then ?_
        refine CodT.seq ?_
        by_cases hb21 : (decide (x20 < y2)) = true
        · rw [if_pos hb21] at h1
          refine CodT.yes' (b := decide (x20 < y2)) (by kernel_rfl) hb21 ?_
          refine CodT.skip ?_
          refine Qn.then ?_
          refine CodT.seq ?_
          refine CodT.block ?_
          refine CodT.seq ?_
          refine CodT.regionL [0, 1, 2, 3, 4, 5, 6, 7, 8, 9] (by kernel_rfl) ?_
          refine OpsT.pures (r := [2, 3, 4, 5, 6, 7, 8, 9]) [0, 1] [2, 3, 13, 30, 31, 34, 35] (S' := [(2, .int .i64 a2), (3, .func (.func 54) #[] #[]), (13, .slice A18 x17.length cp19), (30, .int .i64 y2), (31, .int .i64 x20), (34, .string x16), (35, .int .i64 a2)]) (by kernel_rfl) ?_
          obtain ⟨⟨y23, y26, y27⟩, hc22, h1⟩ := bindS h1
          try dsimp only at h1
          refine OpsT.cons (Does.call (d := some 36) (n := 81) (vs := [.string x16, .int .i64 a2]) (by kernel_rfl) en81 (c81 w0 w _ _ hI x16 a2 _ hc22) ?_)
          rintro e w ⟨A24, cp25, rfl, hI⟩
          refine ⟨_, rfl, ?_⟩
          refine OpsT.pures (r := []) [3, 4, 5, 6, 7, 8, 9] [2, 3, 13, 14, 15, 16, 30, 31] (S' := [(2, .int .i64 a2), (3, .func (.func 54) #[] #[]), (13, .slice A18 x17.length cp19), (14, .slice A24 y23.length cp25), (15, .string y26), (16, .bool y27), (30, .int .i64 y2), (31, .int .i64 x20)]) (by kernel_rfl) ?_
          refine OpsT.done ?_
          refine Qn.then ?_
          refine CodT.seq ?_
          refine CodT.seq ?_
          refine CodT.regionL [0, 1] (by kernel_rfl) ?_
          refine OpsT.pures (r := []) [0, 1] [2, 3, 13, 14, 15, 30, 31, 41] (S' := [(2, .int .i64 a2), (3, .func (.func 54) #[] #[]), (13, .slice A18 x17.length cp19), (14, .slice A24 y23.length cp25), (15, .string y26), (30, .int .i64 y2), (31, .int .i64 x20), (41, .bool (!y27))]) (by kernel_rfl) ?_
          refine OpsT.done ?_
          refine Qn.then ?_
          by_cases hb28 : (!y27) = true
          · rw [if_pos hb28] at h1
            refine CodT.yes' (b := !y27) (by kernel_rfl) hb28 ?_
            refine CodT.seq ?_
            refine CodT.regionL [0, 1, 2] (by kernel_rfl) ?_
            refine OpsT.pures (r := []) [0, 1, 2] [8, 9, 10] (S' := [(8, .slice none 0 0), (9, .string (⟨#[]⟩ : ByteArray)), (10, .bool false)]) (by kernel_rfl) ?_
            refine OpsT.done ?_
            refine Qn.then ?_
            refine CodT.ret ?_
            refine Qn.ret_then ?_
            refine Qn.block_ret ?_
            refine Qn.ret_then ?_
            refine Qn.ret_then ?_
            refine Qn.block_ret ?_
            refine Qn.ret_then ?_
            refine Qn.ret_then ?_
            have hI := ownS_nil (α := RootEntry) hI 47 c_RootEntry 4
            have hI := hI.mono (pick2 _ _ _)
            have hI := hI.drop
            have hI := hI.mono (pick2 _ _ _)
            have hI := hI.drop
            have e := someS h1
            subst e
            try dsimp only at h0
            have e := someS h0
            subst e
            refine Qn.keep [8, 9, 10] (S' := [(8, .slice none 0 0), (9, .string (⟨#[]⟩ : ByteArray)), (10, .bool false)]) (by kernel_rfl) ?_
            exact post_ret (v := .tuple #[.slice none 0 0, .string (⟨#[]⟩ : ByteArray), .bool false]) (fun a ha => RunRes.run (vs := [.slice none 0 0, .string (⟨#[]⟩ : ByteArray), .bool false]) (.tmp (t := 8) (by kernel_rfl) (.tmp (t := 9) (by kernel_rfl) (.tmp (t := 10) (by kernel_rfl) .nil))) ha (by kernel_rfl)) ⟨none, 0, rfl, hI.weaken hle15⟩
          · rw [if_neg hb28] at h1
            refine CodT.no' (b := !y27) (by kernel_rfl) (by simpa using hb28) ?_
            refine CodT.skip ?_
            refine Qn.then ?_
            refine CodT.seq ?_
            refine CodT.regionL [0, 1, 2, 3, 4, 5, 6] (by kernel_rfl) ?_
            refine OpsT.pures (r := [3, 4, 5, 6]) [0, 1, 2] [2, 3, 15, 30, 31, 42, 43, 44] (S' := [(2, .int .i64 a2), (3, .func (.func 54) #[] #[]), (15, .string y26), (30, .int .i64 y2), (31, .int .i64 x20), (42, .slice A18 x17.length cp19), (43, .func (.func 54) #[] #[]), (44, .slice A24 y23.length cp25)]) (by kernel_rfl) ?_
            obtain ⟨Z29, hle30, hr31, hI⟩ := ownS_freeze hI
            obtain ⟨y33, hc32, h1⟩ := bindS h1
            try dsimp only at h1
            refine OpsT.cons (Does.call (d := some 45) (n := 54) (vs := [.slice A24 y23.length cp25]) (by kernel_rfl) en54 (c54 w0 w _ _ hI A24 cp25 y23 hr31 _ hc32) ?_)
            rintro e w ⟨rfl, hI⟩
            refine ⟨_, rfl, ?_⟩
            refine OpsT.cons (Does.buildSlice (en := c_RootEntry) (d := 46) (n := 1) (T := 22) (ps := [(0, .agg (c_RootEntry y33).toArray)]) ([y33] : List RootEntry) (by kernel_rfl) Go.Proofs.Try.underlying22 ty47 (by kernel_rfl) (by kernel_rfl) (by kernel_rfl) (by kernel_rfl) (len_all (fun _ => rfl)) hI ?_)
            intro b34 w hI
            obtain ⟨hg35, h1⟩ := guardS h1
            have hI := hI.mono (pick2 _ _ _)
            refine OpsT.cons (Does.append (d := 47) (t := 22) (tx := 22) (ty := 22) (ys := x17) (zs := ([y33] : List RootEntry)) (x := .slice (some ⟨b34, 0, none⟩) (([y33] : List RootEntry).length) 1) (by kernel_rfl) Go.Proofs.Try.underlying22 ty47 (by kernel_rfl) hI (src_own Go.Proofs.Try.underlying22 (hI.mono (pick2 _ _ _)) (one_flat _ (fun _ => rfl))) (ownS_facts (hI.mono (pick2 _ _ _))).2.2 (by unfold LIM at hg35; omega) hg35 ?_)
            intro A36 cp37 w hI
            refine OpsT.pures (r := []) [6] [2, 3, 13, 15, 30, 31] (S' := [(2, .int .i64 a2), (3, .func (.func 54) #[] #[]), (13, .slice A36 ((x17 ++ ([y33] : List RootEntry)).length) cp37), (15, .string y26), (30, .int .i64 y2), (31, .int .i64 x20)]) (by kernel_rfl) ?_
            refine OpsT.done ?_
            refine Qn.then ?_
            refine CodT.regionL [0, 1] (by kernel_rfl) ?_
            refine OpsT.pures (r := []) [0, 1] [0, 2, 3, 13, 30, 31] (S' := [(0, .string y26), (2, .int .i64 a2), (3, .func (.func 54) #[] #[]), (13, .slice A36 ((x17 ++ ([y33] : List RootEntry)).length) cp37), (30, .int .i64 y2), (31, .int .i64 x20)]) (by kernel_rfl) ?_
            refine OpsT.done ?_
            refine Qn.block_normal ?_
            refine Qn.then ?_
            refine CodT.regionL [0, 1] (by kernel_rfl) ?_
            refine OpsT.pures (r := []) [0, 1] [0, 2, 3, 13, 30, 31] (S' := [(0, .string y26), (2, .int .i64 a2), (3, .func (.func 54) #[] #[]), (13, .slice A36 ((x17 ++ ([y33] : List RootEntry)).length) cp37), (30, .int .i64 y2), (31, .int .i64 (wi64 (x20 + 1)))]) (by kernel_rfl) ?_
            refine OpsT.done ?_
            have hI := hI.mono (pick2 _ _ _)
            have hI := hI.drop
            exact Qn.thenJ fun a ha => ⟨k, Nat.lt_succ_self k, y26, x17 ++ ([y33] : List RootEntry), wi64 (x20 + 1), Z29, A36, cp37, h1, ha.keep [0, 2, 3, 13, 30, 31] (by kernel_rfl), hI, (Hp.le_trans hle15 hle30)⟩
        · rw [if_neg hb21] at h1
          refine CodT.no' (b := decide (x20 < y2)) (by kernel_rfl) (by simpa using hb21) ?_
          refine CodT.exit ?_
          refine Qn.exit_then ?_
          refine Qn.exit_then ?_
          refine Qn.block ?_
          have e := someS h1
          subst e
          exact Qn.thenJ fun a ha => ⟨x16, x17, Z14, A18, cp19, rfl, ha.keep [0, 13] (by kernel_rfl), hI, hle15⟩
      ·
        rintro a w ⟨x10, x11, Z8, A12, cp13, rfl, ha, hI, hle9⟩
        try dsimp only at h0
        refine Qn.of ?_ ha
        refine Qn.then ?_
        refine CodT.seq ?_
        refine CodT.regionL [0, 1, 2, 3, 4] (by kernel_rfl) ?_
        refine OpsT.pures (r := []) [0, 1, 2, 3, 4] [8, 9, 10] (S' := [(8, .slice A12 x11.length cp13), (9, .string x10), (10, .bool true)]) (by kernel_rfl) ?_
        refine OpsT.done ?_
        refine Qn.then ?_
        refine CodT.ret ?_
        have e := someS h0
        subst e
        refine Qn.keep [8, 9, 10] (S' := [(8, .slice A12 x11.length cp13), (9, .string x10), (10, .bool true)]) (by kernel_rfl) ?_
        exact post_ret (v := .tuple #[.slice A12 x11.length cp13, .string x10, .bool true]) (fun a ha => RunRes.run (vs := [.slice A12 x11.length cp13, .string x10, .bool true]) (.tmp (t := 8) (by kernel_rfl) (.tmp (t := 9) (by kernel_rfl) (.tmp (t := 10) (by kernel_rfl) .nil))) ha (by kernel_rfl)) ⟨A12, cp13, rfl, hI.weaken hle9⟩
set_option maxRecDepth 100000 in
set_option maxHeartbeats 4000000 in
/-- cenotaph/root.Get$2 -/
theorem c56 (w0 w : World) (Z : Hp) (A : HP) (hI : Inv w0 Z w A) (A_a0 : Option Addr) (c_a0 : Nat) (a0 : (List Int)) (hr_a0 : RdS Z (cI .i64) 1 A_a0 c_a0 a0) (r : Int) (h0 : root_Get_2 a0 = some r) :
    Calls prog 56 #[.slice A_a0 a0.length c_a0] w (fun e w' => e = .returned (.int .i64 r) ∧ Inv w0 Z w' A) := by
  have e4 := calls_intro (R := (fun e w' => e = .returned (.int .i64 r) ∧ Inv w0 Z w' A)) (w := w) (args := [.slice A_a0 a0.length c_a0]) (fn := Go.Proofs.Try.f56) 6 Go.Proofs.Try.func56 (by rfl) Go.Proofs.Try.ntmps56 (by kernel_rfl)
  refine e4 ?_
  clear e4
  unfold root_Get_2 at h0
  refine CodT.seq ?_
  refine CodT.regionL [0] (by kernel_rfl) ?_
  refine OpsT.pures (r := []) [0] [0] (S' := [(0, .slice A_a0 a0.length c_a0)]) (by kernel_rfl) ?_
  refine OpsT.done ?_
  refine Qn.then ?_
  refine CodT.seq ?_
  refine CodT.regionL [0, 1, 2, 3] (by kernel_rfl) ?_
  refine OpsT.pures (r := [1, 2, 3]) [0] [3] (S' := [(3, .slice A_a0 a0.length c_a0)]) (by kernel_rfl) ?_
  obtain ⟨hg1, h0⟩ := guardS h0
  obtain ⟨g2, o6, hA3, hr4, hl5⟩ := RdS.get hr_a0 hg1.1 hg1.2
  refine OpsT.cons (Does.yi (Yl.indexSlice (d := 4) (T := 23) (cc := c_a0) (k := .i64) (j := 0) (g := g2) (o := o6) (by kernel_rfl) Go.Proofs.Try.underlying23 ty3 hA3 hg1.1 hg1.2) hI ?_)
  refine OpsT.cons (Does.yi (Yl.load (d := 5) (T := 3) (v := .int .i64 (gt a0 0)) (by kernel_rfl) (ldR ty3 (v := .int .i64 (gt a0 0)) 0 (fun w hC => hr4 w0 w _ hC) (by kernel_rfl))) hI ?_)
  refine OpsT.pures (r := []) [3] [2] (S' := [(2, .int .i64 (gt a0 0))]) (by kernel_rfl) ?_
  refine OpsT.done ?_
  refine Qn.then ?_
  refine CodT.ret ?_
  have e := someS h0
  subst e
  refine Qn.keep [2] (S' := [(2, .int .i64 (gt a0 0))]) (by kernel_rfl) ?_
  exact post_ret (v := .int .i64 (gt a0 0)) (fun a ha => RunRes.run (vs := [.int .i64 (gt a0 0)]) (.tmp (t := 2) (by kernel_rfl) .nil) ha (by kernel_rfl)) ⟨rfl, hI⟩
set_option maxRecDepth 100000 in
set_option maxHeartbeats 4000000 in
/-- cenotaph/root.counted[int] -/
theorem c55 (w0 w : World) (Z : Hp) (A : HP) (hI : Inv w0 Z w A) (a0 : ByteArray) (a1 : Int) (a2 : Int) (r : ((List Int) × ByteArray × Bool)) (h0 : root_counted_int__root_Get_2 a0 a1 a2 = some r) :
    Calls prog 55 #[.string a0, .int .i64 a1, .int .i64 a2, .func (.func 56) #[] #[]] w (fun e w' => ∃ (A1 : Option Addr) (c1 : Nat), e = .returned (.tuple #[.slice A1 r.1.length c1, .string r.2.1, .bool r.2.2]) ∧ Inv w0 Z w' (star (ownS 3 (cI .i64) 1 A1 c1 r.1) A)) := by
  have e4 := calls_intro (R := (fun e w' => ∃ (A1 : Option Addr) (c1 : Nat), e = .returned (.tuple #[.slice A1 r.1.length c1, .string r.2.1, .bool r.2.2]) ∧ Inv w0 Z w' (star (ownS 3 (cI .i64) 1 A1 c1 r.1) A))) (w := w) (args := [.string a0, .int .i64 a1, .int .i64 a2, .func (.func 56) #[] #[]]) (fn := Go.Proofs.Try.f55) 52 Go.Proofs.Try.func55 (by rfl) Go.Proofs.Try.ntmps55 (by kernel_rfl)
  refine e4 ?_
  clear e4
  unfold root_counted_int__root_Get_2 at h0
  refine CodT.seq ?_
  refine CodT.regionL [0, 1, 2] (by kernel_rfl) ?_
  refine OpsT.pures (r := []) [0, 1, 2] [0, 1, 2, 3] (S' := [(0, .string a0), (1, .int .i64 a1), (2, .int .i64 a2), (3, .func (.func 56) #[] #[])]) (by kernel_rfl) ?_
  refine OpsT.done ?_
  refine Qn.then ?_
  refine CodT.seq ?_
  refine CodT.regionL [0, 1, 2, 3, 4, 5, 6, 7, 8] (by kernel_rfl) ?_
  refine OpsT.pures (r := [1, 2, 3, 4, 5, 6, 7, 8]) [0] [1, 2, 3, 18] (S' := [(1, .int .i64 a1), (2, .int .i64 a2), (3, .func (.func 56) #[] #[]), (18, .string a0)]) (by kernel_rfl) ?_
  obtain ⟨⟨y2, y3, y4⟩, hc1, h0⟩ := bindS h0
  try dsimp only at h0
  refine OpsT.cons (Does.call (d := some 19) (n := 82) (vs := [.string a0]) (by kernel_rfl) en82 (c82 w0 w _ _ hI a0 _ hc1) ?_)
  rintro e w ⟨rfl, hI⟩
  refine ⟨_, rfl, ?_⟩
  refine OpsT.pures (r := []) [2, 3, 4, 5, 6, 7, 8] [0, 1, 2, 3, 11, 12] (S' := [(0, .string y3), (1, .int .i64 a1), (2, .int .i64 a2), (3, .func (.func 56) #[] #[]), (11, .int .i64 y2), (12, .bool y4)]) (by kernel_rfl) ?_
  refine OpsT.done ?_
  refine Qn.then ?_
  refine CodT.seq ?_
  obtain ⟨r1, h1, h0⟩ := bindS h0
  refine CodT.meet (fun a w => ∃ (x5 : Bool), x5 = r1 ∧ Fr 52 [(0, .string y3), (2, .int .i64 a2), (3, .func (.func 56) #[] #[]), (11, .int .i64 y2), (29, .bool x5)] a ∧ Inv w0 Z w A) ?_ ?_
  ·
    refine CodT.regionL [0, 1, 2, 3, 4, 5, 6] (by kernel_rfl) ?_
    refine OpsT.pures (r := [3, 4, 5, 6]) [0, 1, 2] [0, 1, 2, 3, 11, 25] (S' := [(0, .string y3), (1, .int .i64 a1), (2, .int .i64 a2), (3, .func (.func 56) #[] #[]), (11, .int .i64 y2), (25, .bool (!y4))]) (by kernel_rfl) ?_
    by_cases hb6 : (!y4) = true
    · rw [if_pos hb6] at h1
      refine OpsT.keep [0, 1, 2, 3, 11, 25] (S' := [(0, .string y3), (1, .int .i64 a1), (2, .int .i64 a2), (3, .func (.func 56) #[] #[]), (11, .int .i64 y2), (25, .bool true)]) (by simp only [hb6]; kernel_rfl) ?_
      refine OpsT.pures (r := []) [3, 4, 5, 6] [0, 2, 3, 11, 29] (S' := [(0, .string y3), (2, .int .i64 a2), (3, .func (.func 56) #[] #[]), (11, .int .i64 y2), (29, .bool true)]) (by kernel_rfl) ?_
      refine OpsT.done ?_
      have e := someS h1
      subst e
      exact Qn.thenJ fun a ha => ⟨true, rfl, ha.keep [0, 2, 3, 11, 29] (by kernel_rfl), hI⟩
    · rw [if_neg hb6] at h1
      have hb6 : (!y4) = false := by simpa using hb6
      refine OpsT.keep [0, 1, 2, 3, 11, 25] (S' := [(0, .string y3), (1, .int .i64 a1), (2, .int .i64 a2), (3, .func (.func 56) #[] #[]), (11, .int .i64 y2), (25, .bool false)]) (by simp only [hb6]; kernel_rfl) ?_
      refine OpsT.pures (r := []) [3, 4, 5, 6] [0, 2, 3, 11, 29] (S' := [(0, .string y3), (2, .int .i64 a2), (3, .func (.func 56) #[] #[]), (11, .int .i64 y2), (29, .bool (decide (y2 > a1)))]) (by kernel_rfl) ?_
      refine OpsT.done ?_
      have e := someS h1
      subst e
      exact Qn.thenJ fun a ha => ⟨decide (y2 > a1), rfl, ha.keep [0, 2, 3, 11, 29] (by kernel_rfl), hI⟩
  ·
    rintro a w ⟨x5, rfl, ha, hI⟩
    try dsimp only at h0
    refine CodT.of ?_ ha
    by_cases hb7 : x5 = true
    · rw [if_pos hb7] at h0
      refine CodT.yes' (b := x5) (by kernel_rfl) hb7 ?_
      refine CodT.seq ?_
      refine CodT.regionL [0, 1, 2] (by kernel_rfl) ?_
      refine OpsT.pures (r := []) [0, 1, 2] [8, 9, 10] (S' := [(8, .slice none 0 0), (9, .string (⟨#[]⟩ : ByteArray)), (10, .bool false)]) (by kernel_rfl) ?_
      refine OpsT.done ?_
      refine Qn.then ?_
      refine CodT.ret ?_
      refine Qn.ret_then ?_
      have hI := ownS_nil (α := Int) hI 3 (cI .i64) 1
      have e := someS h0
      subst e
      refine Qn.keep [8, 9, 10] (S' := [(8, .slice none 0 0), (9, .string (⟨#[]⟩ : ByteArray)), (10, .bool false)]) (by kernel_rfl) ?_
      exact post_ret (v := .tuple #[.slice none 0 0, .string (⟨#[]⟩ : ByteArray), .bool false]) (fun a ha => RunRes.run (vs := [.slice none 0 0, .string (⟨#[]⟩ : ByteArray), .bool false]) (.tmp (t := 8) (by kernel_rfl) (.tmp (t := 9) (by kernel_rfl) (.tmp (t := 10) (by kernel_rfl) .nil))) ha (by kernel_rfl)) ⟨none, 0, rfl, hI⟩
    · rw [if_neg hb7] at h0
      refine CodT.no' (b := x5) (by kernel_rfl) (by simpa using hb7) ?_
      refine CodT.skip ?_
      refine Qn.then ?_
      refine CodT.seq ?_
      refine CodT.regionL [0] (by kernel_rfl) ?_
      refine OpsT.pures (r := []) [0] [0, 2, 3, 11, 13] (S' := [(0, .string y3), (2, .int .i64 a2), (3, .func (.func 56) #[] #[]), (11, .int .i64 y2), (13, .slice none 0 0)]) (by kernel_rfl) ?_
      refine OpsT.done ?_
      refine Qn.then ?_
      refine CodT.seq ?_
      refine CodT.seq ?_
      refine CodT.regionL [0, 1] (by kernel_rfl) ?_
      refine OpsT.pures (r := []) [0, 1] [0, 2, 3, 13, 30, 31] (S' := [(0, .string y3), (2, .int .i64 a2), (3, .func (.func 56) #[] #[]), (13, .slice none 0 0), (30, .int .i64 y2), (31, .int .i64 0)]) (by kernel_rfl) ?_
      refine OpsT.done ?_
      refine Qn.then ?_
      obtain ⟨r1, h1, h0⟩ := bindS h0
      refine CodT.meet1 (fun a w => ∃ (x10 : ByteArray) (x11 : (List Int)) (Z8 : Hp) (A12 : Option Addr) (cp13 : Nat), .inr (x10, x11) = r1 ∧ Fr 52 [(0, .string x10), (13, .slice A12 x11.length cp13)] a ∧ Inv w0 Z8 w (star (ownS 3 (cI .i64) 1 A12 cp13 x11) A) ∧ Z.le Z8) ?_ ?_
      ·
        refine CodT.block ?_
        have hI := ownS_nil (α := Int) hI 3 (cI .i64) 1
        refine (fun a ha => wp_loopN (fun k a w => ∃ (x16 : ByteArray) (x17 : (List Int)) (x20 : Int) (Z14 : Hp) (A18 : Option Addr) (cp19 : Nat), root_counted_int__root_Get_2.l0 y2 a2 k x16 x17 x20 = some r1 ∧ Fr 52 [(0, .string x16), (2, .int .i64 a2), (3, .func (.func 56) #[] #[]), (13, .slice A18 x17.length cp19), (30, .int .i64 y2), (31, .int .i64 x20)] a ∧ Inv w0 Z14 w (star (ownS 3 (cI .i64) 1 A18 cp19 x17) A) ∧ Z.le Z14) ?_ FU a w ⟨y3, ([] : List Int), 0, Z, none, 0, h1, ha.keep [0, 2, 3, 13, 30, 31] (by kernel_rfl), hI, (Hp.le_refl _)⟩)
        clear h1 hI
        rintro k a w ⟨x16, x17, x20, Z14, A18, cp19, h1, ha, hI, hle15⟩
        rcases k with _ | k
        · cases h1
        simp only [root_counted_int__root_Get_2.l0] at h1
        refine CodT.of ?_ ha
        refine CodT.seq ?_
        refine CodT.regionL [0] (by kernel_rfl) ?_
        refine OpsT.pures (r := []) [0] [0, 2, 3, 13, 30, 31, 32] (S' := [(0, .string x16), (2, .int .i64 a2), (3, .func (.func 56) #[] #[]), (13, .slice A18 x17.length cp19), (30, .int .i64 y2), (31, .int .i64 x20), (32, .bool (decide (x20 < y2)))]) (by kernel_rfl) ?_
        refine OpsT.done ?_
        refine Qn.then ?_
        refine CodT.seq ?_
        by_cases hb21 : (decide (x20 < y2)) = true
        · rw [if_pos hb21] at h1
          refine CodT.yes' (b := decide (x20 < y2)) (by kernel_rfl) hb21 ?_
          refine CodT.skip ?_
          refine Qn.then ?_
          refine CodT.seq ?_
          refine CodT.block ?_
          refine CodT.seq ?_
          refine CodT.regionL [0, 1, 2, 3, 4, 5, 6, 7, 8, 9] (by kernel_rfl) ?_
          refine OpsT.pures (r := [2, 3, 4, 5, 6, 7, 8, 9]) [0, 1] [2, 3, 13, 30, 31, 34, 35] (S' := [(2, .int .i64 a2), (3, .func (.func 56) #[] #[]), (13, .slice A18 x17.length cp19), (30, .int .i64 y2), (31, .int .i64 x20), (34, .string x16), (35, .int .i64 a2)]) (by kernel_rfl) ?_
          obtain ⟨⟨y23, y26, y27⟩, hc22, h1⟩ := bindS h1
          try dsimp only at h1
          refine OpsT.cons (Does.call (d := some 36) (n := 81) (vs := [.string x16, .int .i64 a2]) (by kernel_rfl) en81 (c81 w0 w _ _ hI x16 a2 _ hc22) ?_)
          rintro e w ⟨A24, cp25, rfl, hI⟩
          refine ⟨_, rfl, ?_⟩
          refine OpsT.pures (r := []) [3, 4, 5, 6, 7, 8, 9] [2, 3, 13, 14, 15, 16, 30, 31] (S' := [(2, .int .i64 a2), (3, .func (.func 56) #[] #[]), (13, .slice A18 x17.length cp19), (14, .slice A24 y23.length cp25), (15, .string y26), (16, .bool y27), (30, .int .i64 y2), (31, .int .i64 x20)]) (by kernel_rfl) ?_
          refine OpsT.done ?_
          refine Qn.then ?_
          refine CodT.seq ?_
          refine CodT.seq ?_
          refine CodT.regionL [0, 1] (by kernel_rfl) ?_
          refine OpsT.pures (r := []) [0, 1] [2, 3, 13, 14, 15, 30, 31, 41] (S' := [(2, .int .i64 a2), (3, .func (.func 56) #[] #[]), (13, .slice A18 x17.length cp19), (14, .slice A24 y23.length cp25), (15, .string y26), (30, .int .i64 y2), (31, .int .i64 x20), (41, .bool (!y27))]) (by kernel_rfl) ?_
          refine OpsT.done ?_
          refine Qn.then ?_
          by_cases hb28 : (!y27) = true
          · rw [if_pos hb28] at h1
            refine CodT.yes' (b := !y27) (by kernel_rfl) hb28 ?_
            refine CodT.seq ?_
            refine CodT.regionL [0, 1, 2] (by kernel_rfl) ?_
            refine OpsT.pures (r := []) [0, 1, 2] [8, 9, 10] (S' := [(8, .slice none 0 0), (9, .string (⟨#[]⟩ : ByteArray)), (10, .bool false)]) (by kernel_rfl) ?_
            refine OpsT.done ?_
            refine Qn.then ?_
            refine CodT.ret ?_
            refine Qn.ret_then ?_
            refine Qn.block_ret ?_
            refine Qn.ret_then ?_
            refine Qn.ret_then ?_
            refine Qn.block_ret ?_
            refine Qn.ret_then ?_
            refine Qn.ret_then ?_
            have hI := ownS_nil (α := Int) hI 3 (cI .i64) 1
            have hI := hI.mono (pick2 _ _ _)
            have hI := hI.drop
            have hI := hI.mono (pick2 _ _ _)
            have hI := hI.drop
            have e := someS h1
            subst e
            try dsimp only at h0
            have e := someS h0
            subst e
            refine Qn.keep [8, 9, 10] (S' := [(8, .slice none 0 0), (9, .string (⟨#[]⟩ : ByteArray)), (10, .bool false)]) (by kernel_rfl) ?_
            exact post_ret (v := .tuple #[.slice none 0 0, .string (⟨#[]⟩ : ByteArray), .bool false]) (fun a ha => RunRes.run (vs := [.slice none 0 0, .string (⟨#[]⟩ : ByteArray), .bool false]) (.tmp (t := 8) (by kernel_rfl) (.tmp (t := 9) (by kernel_rfl) (.tmp (t := 10) (by kernel_rfl) .nil))) ha (by kernel_rfl)) ⟨none, 0, rfl, hI.weaken hle15⟩
          · rw [if_neg hb28] at h1
            refine CodT.no' (b := !y27) (by kernel_rfl) (by simpa using hb28) ?_
            refine CodT.skip ?_
            refine Qn.then ?_
            refine CodT.seq ?_
            refine CodT.regionL [0, 1, 2, 3, 4, 5, 6] (by kernel_rfl) ?_
            refine OpsT.pures (r := [3, 4, 5, 6]) [0, 1, 2] [2, 3, 15, 30, 31, 42, 43, 44] (S' := [(2, .int .i64 a2), (3, .func (.func 56) #[] #[]), (15, .string y26), (30, .int .i64 y2), (31, .int .i64 x20), (42, .slice A18 x17.length cp19), (43, .func (.func 56) #[] #[]), (44, .slice A24 y23.length cp25)]) (by kernel_rfl) ?_
            obtain ⟨Z29, hle30, hr31, hI⟩ := ownS_freeze hI
            obtain ⟨y33, hc32, h1⟩ := bindS h1
            try dsimp only at h1
            refine OpsT.cons (Does.call (d := some 45) (n := 56) (vs := [.slice A24 y23.length cp25]) (by kernel_rfl) en56 (c56 w0 w _ _ hI A24 cp25 y23 hr31 _ hc32) ?_)
            rintro e w ⟨rfl, hI⟩
            refine ⟨_, rfl, ?_⟩
            refine OpsT.cons (Does.buildSlice (en := (cI .i64)) (d := 46) (n := 1) (T := 23) (ps := [(0, .int .i64 y33)]) ([y33] : List Int) (by kernel_rfl) Go.Proofs.Try.underlying23 ty3 (by kernel_rfl) (by kernel_rfl) (by kernel_rfl) (by kernel_rfl) (len_all (fun _ => rfl)) hI ?_)
            intro b34 w hI
            obtain ⟨hg35, h1⟩ := guardS h1
            have hI := hI.mono (pick2 _ _ _)
            refine OpsT.cons (Does.append (d := 47) (t := 23) (tx := 23) (ty := 23) (ys := x17) (zs := ([y33] : List Int)) (x := .slice (some ⟨b34, 0, none⟩) (([y33] : List Int).length) 1) (by kernel_rfl) Go.Proofs.Try.underlying23 ty3 (by kernel_rfl) hI (src_own Go.Proofs.Try.underlying23 (hI.mono (pick2 _ _ _)) (one_flat _ (fun _ => rfl))) (ownS_facts (hI.mono (pick2 _ _ _))).2.2 (by unfold LIM at hg35; omega) hg35 ?_)
            intro A36 cp37 w hI
            refine OpsT.pures (r := []) [6] [2, 3, 13, 15, 30, 31] (S' := [(2, .int .i64 a2), (3, .func (.func 56) #[] #[]), (13, .slice A36 ((x17 ++ ([y33] : List Int)).length) cp37), (15, .string y26), (30, .int .i64 y2), (31, .int .i64 x20)]) (by kernel_rfl) ?_
            refine OpsT.done ?_
            refine Qn.then ?_
            refine CodT.regionL [0, 1] (by kernel_rfl) ?_
            refine OpsT.pures (r := []) [0, 1] [0, 2, 3, 13, 30, 31] (S' := [(0, .string y26), (2, .int .i64 a2), (3, .func (.func 56) #[] #[]), (13, .slice A36 ((x17 ++ ([y33] : List Int)).length) cp37), (30, .int .i64 y2), (31, .int .i64 x20)]) (by kernel_rfl) ?_
            refine OpsT.done ?_
            refine Qn.block_normal ?_
            refine Qn.then ?_
            refine CodT.regionL [0, 1] (by kernel_rfl) ?_
            refine OpsT.pures (r := []) [0, 1] [0, 2, 3, 13, 30, 31] (S' := [(0, .string y26), (2, .int .i64 a2), (3, .func (.func 56) #[] #[]), (13, .slice A36 ((x17 ++ ([y33] : List Int)).length) cp37), (30, .int .i64 y2), (31, .int .i64 (wi64 (x20 + 1)))]) (by kernel_rfl) ?_
            refine OpsT.done ?_
            have hI := hI.mono (pick2 _ _ _)
            have hI := hI.drop
            exact Qn.thenJ fun a ha => ⟨k, Nat.lt_succ_self k, y26, x17 ++ ([y33] : List Int), wi64 (x20 + 1), Z29, A36, cp37, h1, ha.keep [0, 2, 3, 13, 30, 31] (by kernel_rfl), hI, (Hp.le_trans hle15 hle30)⟩
        · rw [if_neg hb21] at h1
          refine CodT.no' (b := decide (x20 < y2)) (by kernel_rfl) (by simpa using hb21) ?_
          refine CodT.exit ?_
          refine Qn.exit_then ?_
          refine Qn.exit_then ?_
          refine Qn.block ?_
          have e := someS h1
          subst e
          exact Qn.thenJ fun a ha => ⟨x16, x17, Z14, A18, cp19, rfl, ha.keep [0, 13] (by kernel_rfl), hI, hle15⟩
      ·
        rintro a w ⟨x10, x11, Z8, A12, cp13, rfl, ha, hI, hle9⟩
        try dsimp only at h0
        refine Qn.of ?_ ha
        refine Qn.then ?_
        refine CodT.seq ?_
        refine CodT.regionL [0, 1, 2, 3, 4] (by kernel_rfl) ?_
        refine OpsT.pures (r := []) [0, 1, 2, 3, 4] [8, 9, 10] (S' := [(8, .slice A12 x11.length cp13), (9, .string x10), (10, .bool true)]) (by kernel_rfl) ?_
        refine OpsT.done ?_
        refine Qn.then ?_
        refine CodT.ret ?_
        have e := someS h0
        subst e
        refine Qn.keep [8, 9, 10] (S' := [(8, .slice A12 x11.length cp13), (9, .string x10), (10, .bool true)]) (by kernel_rfl) ?_
        exact post_ret (v := .tuple #[.slice A12 x11.length cp13, .string x10, .bool true]) (fun a ha => RunRes.run (vs := [.slice A12 x11.length cp13, .string x10, .bool true]) (.tmp (t := 8) (by kernel_rfl) (.tmp (t := 9) (by kernel_rfl) (.tmp (t := 10) (by kernel_rfl) .nil))) ha (by kernel_rfl)) ⟨A12, cp13, rfl, hI.weaken hle9⟩
set_option maxRecDepth 100000 in
set_option maxHeartbeats 4000000 in
/-- cenotaph/root.Get -/
theorem c19 (w0 w : World) (Z : Hp) (A : HP) (hI : Inv w0 Z w A) (A_a0 : Option Addr) (c_a0 : Nat) (a0 : (List ByteArray)) (hr_a0 : RdS Z cS 1 A_a0 c_a0 a0) (r : ((List RootEntry) × (List Int) × Bool)) (h0 : root_Get a0 = some r) :
    Calls prog 19 #[.slice A_a0 a0.length c_a0] w (fun e w' => ∃ (A1 : Option Addr) (c1 : Nat) (A2 : Option Addr) (c2 : Nat) (Z' : Hp), Z.le Z' ∧ e = .returned (.tuple #[.agg ((([.slice A1 r.1.length c1, .slice A2 r.2.1.length c2] : List Value))).toArray, .bool r.2.2]) ∧ RdS Z' c_RootEntry 4 A1 c1 r.1 ∧ RdS Z' (cI .i64) 1 A2 c2 r.2.1 ∧ Inv w0 Z' w' A) := by
  have e4 := calls_intro (R := (fun e w' => ∃ (A1 : Option Addr) (c1 : Nat) (A2 : Option Addr) (c2 : Nat) (Z' : Hp), Z.le Z' ∧ e = .returned (.tuple #[.agg ((([.slice A1 r.1.length c1, .slice A2 r.2.1.length c2] : List Value))).toArray, .bool r.2.2]) ∧ RdS Z' c_RootEntry 4 A1 c1 r.1 ∧ RdS Z' (cI .i64) 1 A2 c2 r.2.1 ∧ Inv w0 Z' w' A)) (w := w) (args := [.slice A_a0 a0.length c_a0]) (fn := Go.Proofs.Try.f19) 60 Go.Proofs.Try.func19 (by rfl) Go.Proofs.Try.ntmps19 (by kernel_rfl)
  refine e4 ?_
  clear e4
  unfold root_Get at h0
  refine CodT.seq ?_
  refine CodT.regionL [0, 1] (by kernel_rfl) ?_
  refine OpsT.cons (Does.allocL (d := 2) (T := 25) ((([.slice none 0 0, .slice none 0 0] : List Value))) (by kernel_rfl) ty25 hI (by kernel_rfl) ?_)
  intro b1 w hI
  refine OpsT.pures (r := []) [1] [0, 2] (S' := [(0, .slice A_a0 a0.length c_a0), (2, .pointer (some ⟨b1, 0, none⟩))]) (by kernel_rfl) ?_
  refine OpsT.done ?_
  refine Qn.then ?_
  refine CodT.seq ?_
  refine CodT.regionL [0, 1, 2, 3, 4, 5, 6, 7, 8] (by kernel_rfl) ?_
  refine OpsT.pures (r := [1, 2, 3, 4, 5, 6, 7, 8]) [0] [0, 2, 9] (S' := [(0, .slice A_a0 a0.length c_a0), (2, .pointer (some ⟨b1, 0, none⟩)), (9, .slice A_a0 a0.length c_a0)]) (by kernel_rfl) ?_
  obtain ⟨⟨y3, y4, y5⟩, hc2, h0⟩ := bindS h0
  try dsimp only at h0
  refine OpsT.cons (Does.call (d := some 10) (n := 52) (vs := [.slice A_a0 a0.length c_a0]) (by kernel_rfl) en52 (c52 w0 w _ _ hI A_a0 c_a0 a0 hr_a0 _ hc2) ?_)
  rintro e w ⟨rfl, hI⟩
  refine ⟨_, rfl, ?_⟩
  refine OpsT.pures (r := []) [2, 3, 4, 5, 6, 7, 8] [0, 2, 4, 5, 6] (S' := [(0, .slice A_a0 a0.length c_a0), (2, .pointer (some ⟨b1, 0, none⟩)), (4, .string y3), (5, .int .i64 y4), (6, .bool y5)]) (by kernel_rfl) ?_
  refine OpsT.done ?_
  refine Qn.then ?_
  refine CodT.seq ?_
  obtain ⟨r1, h1, h0⟩ := bindS h0
  refine CodT.meet (fun a w => ∃ (x6 : Bool), x6 = r1 ∧ Fr 60 [(2, .pointer (some ⟨b1, 0, none⟩)), (4, .string y3), (28, .bool x6)] a ∧ Inv w0 Z w (star (pt b1 (.cells ((([.slice none 0 0, .slice none 0 0] : List Value))).toArray 25 (0, 0))) A)) ?_ ?_
  ·
    refine CodT.regionL [0, 1, 2, 3, 4, 5, 6, 7, 8, 9, 10, 11, 12, 13, 14] (by kernel_rfl) ?_
    refine OpsT.pures (r := [3, 4, 5, 6, 7, 8, 9, 10, 11, 12, 13, 14]) [0, 1, 2] [0, 2, 4, 5, 16] (S' := [(0, .slice A_a0 a0.length c_a0), (2, .pointer (some ⟨b1, 0, none⟩)), (4, .string y3), (5, .int .i64 y4), (16, .bool (!y5))]) (by kernel_rfl) ?_
    by_cases hb7 : (!y5) = true
    · rw [if_pos hb7] at h1
      refine OpsT.keep [0, 2, 4, 5, 16] (S' := [(0, .slice A_a0 a0.length c_a0), (2, .pointer (some ⟨b1, 0, none⟩)), (4, .string y3), (5, .int .i64 y4), (16, .bool true)]) (by simp only [hb7]; kernel_rfl) ?_
      refine OpsT.pures (r := []) [3, 4, 5, 6, 7, 8, 9, 10, 11, 12, 13, 14] [2, 4, 28] (S' := [(2, .pointer (some ⟨b1, 0, none⟩)), (4, .string y3), (28, .bool true)]) (by kernel_rfl) ?_
      refine OpsT.done ?_
      have e := someS h1
      subst e
      exact Qn.thenJ fun a ha => ⟨true, rfl, ha.keep [2, 4, 28] (by kernel_rfl), hI⟩
    · rw [if_neg hb7] at h1
      have hb7 : (!y5) = false := by simpa using hb7
      refine OpsT.keep [0, 2, 4, 5, 16] (S' := [(0, .slice A_a0 a0.length c_a0), (2, .pointer (some ⟨b1, 0, none⟩)), (4, .string y3), (5, .int .i64 y4), (16, .bool false)]) (by simp only [hb7]; kernel_rfl) ?_
      refine OpsT.pures (r := [7, 8, 9, 10, 11, 12, 13, 14]) [3, 4, 5, 6] [0, 2, 4, 5, 20] (S' := [(0, .slice A_a0 a0.length c_a0), (2, .pointer (some ⟨b1, 0, none⟩)), (4, .string y3), (5, .int .i64 y4), (20, .bool (decide (y4 > 218)))]) (by kernel_rfl) ?_
      by_cases hb8 : (decide (y4 > 218)) = true
      · rw [if_pos hb8] at h1
        refine OpsT.keep [0, 2, 4, 5, 20] (S' := [(0, .slice A_a0 a0.length c_a0), (2, .pointer (some ⟨b1, 0, none⟩)), (4, .string y3), (5, .int .i64 y4), (20, .bool true)]) (by simp only [hb8]; kernel_rfl) ?_
        refine OpsT.pures (r := []) [7, 8, 9, 10, 11, 12, 13, 14] [2, 4, 28] (S' := [(2, .pointer (some ⟨b1, 0, none⟩)), (4, .string y3), (28, .bool true)]) (by kernel_rfl) ?_
        refine OpsT.done ?_
        have e := someS h1
        subst e
        exact Qn.thenJ fun a ha => ⟨true, rfl, ha.keep [2, 4, 28] (by kernel_rfl), hI⟩
      · rw [if_neg hb8] at h1
        have hb8 : (decide (y4 > 218)) = false := by simpa using hb8
        refine OpsT.keep [0, 2, 4, 5, 20] (S' := [(0, .slice A_a0 a0.length c_a0), (2, .pointer (some ⟨b1, 0, none⟩)), (4, .string y3), (5, .int .i64 y4), (20, .bool false)]) (by simp only [hb8]; kernel_rfl) ?_
        refine OpsT.pures (r := [11, 12, 13, 14]) [7, 8, 9, 10] [2, 4, 5, 20, 24] (S' := [(2, .pointer (some ⟨b1, 0, none⟩)), (4, .string y3), (5, .int .i64 y4), (20, .bool false), (24, .bool (decide ((a0.length : Int) > 1)))]) (by kernel_rfl) ?_
        by_cases hb9 : (decide ((a0.length : Int) > 1)) = true
        · rw [if_pos hb9] at h1
          refine OpsT.keep [2, 4, 5, 20, 24] (S' := [(2, .pointer (some ⟨b1, 0, none⟩)), (4, .string y3), (5, .int .i64 y4), (20, .bool false), (24, .bool true)]) (by simp only [hb9]; kernel_rfl) ?_
          refine OpsT.pures (r := []) [11, 12, 13, 14] [2, 4, 28] (S' := [(2, .pointer (some ⟨b1, 0, none⟩)), (4, .string y3), (28, .bool (decide (y4 < 2)))]) (by kernel_rfl) ?_
          refine OpsT.done ?_
          have e := someS h1
          subst e
          exact Qn.thenJ fun a ha => ⟨decide (y4 < 2), rfl, ha.keep [2, 4, 28] (by kernel_rfl), hI⟩
        · rw [if_neg hb9] at h1
          have hb9 : (decide ((a0.length : Int) > 1)) = false := by simpa using hb9
          refine OpsT.keep [2, 4, 5, 20, 24] (S' := [(2, .pointer (some ⟨b1, 0, none⟩)), (4, .string y3), (5, .int .i64 y4), (20, .bool false), (24, .bool false)]) (by simp only [hb9]; kernel_rfl) ?_
          refine OpsT.pures (r := []) [11, 12, 13, 14] [2, 4, 28] (S' := [(2, .pointer (some ⟨b1, 0, none⟩)), (4, .string y3), (28, .bool false)]) (by kernel_rfl) ?_
          refine OpsT.done ?_
          have e := someS h1
          subst e
          exact Qn.thenJ fun a ha => ⟨false, rfl, ha.keep [2, 4, 28] (by kernel_rfl), hI⟩
  ·
    rintro a w ⟨x6, rfl, ha, hI⟩
    try dsimp only at h0
    refine CodT.of ?_ ha
    by_cases hb10 : x6 = true
    · rw [if_pos hb10] at h0
      refine CodT.yes' (b := x6) (by kernel_rfl) hb10 ?_
      refine CodT.seq ?_
      refine CodT.regionL [0, 1, 2] (by kernel_rfl) ?_
      refine OpsT.pures (r := [1, 2]) [0] [2, 29] (S' := [(2, .pointer (some ⟨b1, 0, none⟩)), (29, .agg ((([.slice none 0 0, .slice none 0 0] : List Value))).toArray)]) (by kernel_rfl) ?_
      refine OpsT.cons (Does.storeLit (T := 25) (b := b1) (o := 0) (v := .agg ((([.slice none 0 0, .slice none 0 0] : List Value))).toArray) (l := (([.slice none 0 0, .slice none 0 0] : List Value))) (vs := (([.slice none 0 0, .slice none 0 0] : List Value))) (L' := (([.slice none 0 0, .slice none 0 0] : List Value))) (by kernel_rfl) ty25 hI (by kernel_rfl) (by kernel_rfl) (by kernel_rfl) (by kernel_rfl) (by kernel_rfl) ?_)
      intro w hI
      refine OpsT.pures (r := []) [2] [2, 3] (S' := [(2, .pointer (some ⟨b1, 0, none⟩)), (3, .bool false)]) (by kernel_rfl) ?_
      refine OpsT.done ?_
      refine Qn.then ?_
      refine CodT.ret ?_
      refine Qn.ret_then ?_
      have hL11 := (ldBN ty25 (l := (([.slice none 0 0, .slice none 0 0] : List Value))) (o := 0) (cs := (([.slice none 0 0, .slice none 0 0] : List Value))) (ent_refl _) (by kernel_rfl) (whole _ _ (by kernel_rfl))) w hI
      have hI := hI.drop
      have e := someS h0
      subst e
      refine Qn.keep [2, 3] (S' := [(2, .pointer (some ⟨b1, 0, none⟩)), (3, .bool false)]) (by kernel_rfl) ?_
      exact post_ret (v := .tuple #[.agg ((([.slice none 0 0, .slice none 0 0] : List Value))).toArray, .bool false]) (fun a ha => RunRes.run (vs := [.agg ((([.slice none 0 0, .slice none 0 0] : List Value))).toArray, .bool false]) (.cell (t := 2) (T := 25) (ad := ⟨b1, 0, none⟩) (by kernel_rfl) hL11 (.tmp (t := 3) (by kernel_rfl) .nil)) ha (by kernel_rfl)) ⟨none, 0, none, 0, Z, Hp.le_refl _, rfl, (RdS.nil _ _ _ _ _ (Nat.zero_le _)), (RdS.nil _ _ _ _ _ (Nat.zero_le _)), hI⟩
    · rw [if_neg hb10] at h0
      refine CodT.no' (b := x6) (by kernel_rfl) (by simpa using hb10) ?_
      refine CodT.skip ?_
      refine Qn.then ?_
      refine CodT.seq ?_
      refine CodT.regionL [0] (by kernel_rfl) ?_
      refine OpsT.cons (Does.allocL (d := 7) (T := 25) ((([.slice none 0 0, .slice none 0 0] : List Value))) (by kernel_rfl) ty25 hI (by kernel_rfl) ?_)
      intro b12 w hI
      refine OpsT.done ?_
      refine Qn.then ?_
      refine CodT.seq ?_
      refine CodT.regionL [0, 1, 2, 3, 4, 5, 6, 7, 8, 9] (by kernel_rfl) ?_
      refine OpsT.pures (r := [1, 2, 3, 4, 5, 6, 7, 8, 9]) [0] [2, 7, 31] (S' := [(2, .pointer (some ⟨b1, 0, none⟩)), (7, .pointer (some ⟨b12, 0, none⟩)), (31, .string y3)]) (by kernel_rfl) ?_
      obtain ⟨⟨y14, y17, y18⟩, hc13, h0⟩ := bindS h0
      try dsimp only at h0
      refine OpsT.cons (Does.call (d := some 32) (n := 53) (vs := [.string y3, .int .i64 400, .int .i64 4, .func (.func 54) #[] #[]]) (by kernel_rfl) en53 (c53 w0 w _ _ hI y3 400 4 _ hc13) ?_)
      rintro e w ⟨A15, cp16, rfl, hI⟩
      refine ⟨_, rfl, ?_⟩
      refine OpsT.pures (r := [7, 8, 9]) [2, 3, 4, 5, 6] [2, 7, 33, 34, 35, 36] (S' := [(2, .pointer (some ⟨b1, 0, none⟩)), (7, .pointer (some ⟨b12, 0, none⟩)), (33, .slice A15 y14.length cp16), (34, .string y17), (35, .bool y18), (36, .pointer (some ⟨b12, 0, none⟩))]) (by kernel_rfl) ?_
      have hI := hI.mono (pick2 _ _ _)
      refine OpsT.cons (Does.storeLit (T := 22) (b := b12) (o := 0) (v := .slice A15 y14.length cp16) (l := (([.slice none 0 0, .slice none 0 0] : List Value))) (vs := ([.slice A15 y14.length cp16] : List Value)) (L' := (([.slice A15 y14.length cp16, .slice none 0 0] : List Value))) (by kernel_rfl) ty22 hI (by kernel_rfl) (by kernel_rfl) (by kernel_rfl) (by kernel_rfl) (by kernel_rfl) ?_)
      intro w hI
      refine OpsT.pures (r := []) [8, 9] [2, 4, 6, 7] (S' := [(2, .pointer (some ⟨b1, 0, none⟩)), (4, .string y17), (6, .bool y18), (7, .pointer (some ⟨b12, 0, none⟩))]) (by kernel_rfl) ?_
      refine OpsT.done ?_
      refine Qn.then ?_
      refine CodT.seq ?_
      refine CodT.seq ?_
      refine CodT.regionL [0, 1] (by kernel_rfl) ?_
      refine OpsT.pures (r := []) [0, 1] [2, 4, 7, 38] (S' := [(2, .pointer (some ⟨b1, 0, none⟩)), (4, .string y17), (7, .pointer (some ⟨b12, 0, none⟩)), (38, .bool (!y18))]) (by kernel_rfl) ?_
      refine OpsT.done ?_
      refine Qn.then ?_
      by_cases hb19 : (!y18) = true
      · rw [if_pos hb19] at h0
        refine CodT.yes' (b := !y18) (by kernel_rfl) hb19 ?_
        refine CodT.seq ?_
        refine CodT.regionL [0, 1, 2] (by kernel_rfl) ?_
        refine OpsT.pures (r := [1, 2]) [0] [2, 39] (S' := [(2, .pointer (some ⟨b1, 0, none⟩)), (39, .agg ((([.slice none 0 0, .slice none 0 0] : List Value))).toArray)]) (by kernel_rfl) ?_
        have hI := hI.mono (pick3 _ _ _ _)
        refine OpsT.cons (Does.storeLit (T := 25) (b := b1) (o := 0) (v := .agg ((([.slice none 0 0, .slice none 0 0] : List Value))).toArray) (l := (([.slice none 0 0, .slice none 0 0] : List Value))) (vs := (([.slice none 0 0, .slice none 0 0] : List Value))) (L' := (([.slice none 0 0, .slice none 0 0] : List Value))) (by kernel_rfl) ty25 hI (by kernel_rfl) (by kernel_rfl) (by kernel_rfl) (by kernel_rfl) (by kernel_rfl) ?_)
        intro w hI
        refine OpsT.pures (r := []) [2] [2, 3] (S' := [(2, .pointer (some ⟨b1, 0, none⟩)), (3, .bool false)]) (by kernel_rfl) ?_
        refine OpsT.done ?_
        refine Qn.then ?_
        refine CodT.ret ?_
        refine Qn.ret_then ?_
        have hL20 := (ldBN ty25 (l := (([.slice none 0 0, .slice none 0 0] : List Value))) (o := 0) (cs := (([.slice none 0 0, .slice none 0 0] : List Value))) (ent_refl _) (by kernel_rfl) (whole _ _ (by kernel_rfl))) w hI
        have hI := hI.drop
        have hI := hI.drop
        have hI := hI.drop
        have e := someS h0
        subst e
        refine Qn.keep [2, 3] (S' := [(2, .pointer (some ⟨b1, 0, none⟩)), (3, .bool false)]) (by kernel_rfl) ?_
        exact post_ret (v := .tuple #[.agg ((([.slice none 0 0, .slice none 0 0] : List Value))).toArray, .bool false]) (fun a ha => RunRes.run (vs := [.agg ((([.slice none 0 0, .slice none 0 0] : List Value))).toArray, .bool false]) (.cell (t := 2) (T := 25) (ad := ⟨b1, 0, none⟩) (by kernel_rfl) hL20 (.tmp (t := 3) (by kernel_rfl) .nil)) ha (by kernel_rfl)) ⟨none, 0, none, 0, Z, Hp.le_refl _, rfl, (RdS.nil _ _ _ _ _ (Nat.zero_le _)), (RdS.nil _ _ _ _ _ (Nat.zero_le _)), hI⟩
      · rw [if_neg hb19] at h0
        refine CodT.no' (b := !y18) (by kernel_rfl) (by simpa using hb19) ?_
        refine CodT.skip ?_
        refine Qn.then ?_
        refine CodT.seq ?_
        refine CodT.regionL [0, 1, 2, 3, 4, 5, 6, 7, 8, 9] (by kernel_rfl) ?_
        refine OpsT.pures (r := [1, 2, 3, 4, 5, 6, 7, 8, 9]) [0] [2, 7, 41] (S' := [(2, .pointer (some ⟨b1, 0, none⟩)), (7, .pointer (some ⟨b12, 0, none⟩)), (41, .string y17)]) (by kernel_rfl) ?_
        obtain ⟨⟨y22, y25, y26⟩, hc21, h0⟩ := bindS h0
        try dsimp only at h0
        refine OpsT.cons (Does.call (d := some 42) (n := 55) (vs := [.string y17, .int .i64 100, .int .i64 1, .func (.func 56) #[] #[]]) (by kernel_rfl) en55 (c55 w0 w _ _ hI y17 100 1 _ hc21) ?_)
        rintro e w ⟨A23, cp24, rfl, hI⟩
        refine ⟨_, rfl, ?_⟩
        refine OpsT.pures (r := [7, 8, 9]) [2, 3, 4, 5, 6] [2, 7, 43, 44, 45, 46] (S' := [(2, .pointer (some ⟨b1, 0, none⟩)), (7, .pointer (some ⟨b12, 0, none⟩)), (43, .slice A23 y22.length cp24), (44, .string y25), (45, .bool y26), (46, .pointer (some ⟨b12, 1, none⟩))]) (by kernel_rfl) ?_
        have hI := hI.mono (pick2 _ _ _)
        refine OpsT.cons (Does.storeLit (T := 23) (b := b12) (o := 1) (v := .slice A23 y22.length cp24) (l := (([.slice A15 y14.length cp16, .slice none 0 0] : List Value))) (vs := ([.slice A23 y22.length cp24] : List Value)) (L' := (([.slice A15 y14.length cp16, .slice A23 y22.length cp24] : List Value))) (by kernel_rfl) ty23 hI (by kernel_rfl) (by kernel_rfl) (by kernel_rfl) (by kernel_rfl) (by kernel_rfl) ?_)
        intro w hI
        refine OpsT.pures (r := []) [8, 9] [2, 4, 6, 7] (S' := [(2, .pointer (some ⟨b1, 0, none⟩)), (4, .string y25), (6, .bool y26), (7, .pointer (some ⟨b12, 0, none⟩))]) (by kernel_rfl) ?_
        refine OpsT.done ?_
        refine Qn.then ?_
        refine CodT.seq ?_
        obtain ⟨r1, h1, h0⟩ := bindS h0
        refine CodT.meet (fun a w => ∃ (x29 : Bool) (x30 : (List RootEntry)) (x34 : (List Int)) (Z27 : Hp) (A31 : Option Addr) (cp32 : Nat) (A35 : Option Addr) (cp36 : Nat), (x29, x30, x34) = r1 ∧ Fr 60 [(2, .pointer (some ⟨b1, 0, none⟩)), (7, .pointer (some ⟨b12, 0, none⟩)), (57, .bool x29)] a ∧ Inv w0 Z27 w (star (pt b12 (.cells ((([.slice A31 x30.length cp32, .slice A35 x34.length cp36] : List Value))).toArray 25 (0, 0))) (star (pt b1 (.cells ((([.slice none 0 0, .slice none 0 0] : List Value))).toArray 25 (0, 0))) A)) ∧ Z.le Z27 ∧ RdS Z27 c_RootEntry 4 A31 cp32 x30 ∧ RdS Z27 (cI .i64) 1 A35 cp36 x34) ?_ ?_
        ·
          refine CodT.regionL [0, 1, 2, 3, 4, 5, 6, 7, 8, 9, 10] (by kernel_rfl) ?_
          refine OpsT.pures (r := [3, 4, 5, 6, 7, 8, 9, 10]) [0, 1, 2] [2, 4, 7, 49] (S' := [(2, .pointer (some ⟨b1, 0, none⟩)), (4, .string y25), (7, .pointer (some ⟨b12, 0, none⟩)), (49, .bool (!y26))]) (by kernel_rfl) ?_
          by_cases hb38 : (!y26) = true
          · rw [if_pos hb38] at h1
            refine OpsT.keep [2, 4, 7, 49] (S' := [(2, .pointer (some ⟨b1, 0, none⟩)), (4, .string y25), (7, .pointer (some ⟨b12, 0, none⟩)), (49, .bool true)]) (by simp only [hb38]; kernel_rfl) ?_
            refine OpsT.pures (r := []) [3, 4, 5, 6, 7, 8, 9, 10] [2, 7, 57] (S' := [(2, .pointer (some ⟨b1, 0, none⟩)), (7, .pointer (some ⟨b12, 0, none⟩)), (57, .bool true)]) (by kernel_rfl) ?_
            refine OpsT.done ?_
            have hI := hI.mono (pick3 _ _ _ _)
            obtain ⟨Z39, hle40, hr41, hI⟩ := ownS_freeze hI
            have hI := hI.mono (pick2 _ _ _)
            obtain ⟨Z42, hle43, hr44, hI⟩ := ownS_freeze hI
            have e := someS h1
            subst e
            exact Qn.thenJ fun a ha => ⟨true, y14, y22, Z42, A15, cp16, A23, cp24, rfl, ha.keep [2, 7, 57] (by kernel_rfl), hI, (Hp.le_trans hle40 hle43), (hr41.mono hle43), hr44⟩
          · rw [if_neg hb38] at h1
            have hb38 : (!y26) = false := by simpa using hb38
            refine OpsT.keep [2, 4, 7, 49] (S' := [(2, .pointer (some ⟨b1, 0, none⟩)), (4, .string y25), (7, .pointer (some ⟨b12, 0, none⟩)), (49, .bool false)]) (by simp only [hb38]; kernel_rfl) ?_
            refine OpsT.pures (r := [7, 8, 9, 10]) [3, 4, 5, 6] [2, 7, 53] (S' := [(2, .pointer (some ⟨b1, 0, none⟩)), (7, .pointer (some ⟨b12, 0, none⟩)), (53, .bool (!(seq y25 (⟨#[]⟩ : ByteArray))))]) (by kernel_rfl) ?_
            by_cases hb45 : (!(seq y25 (⟨#[]⟩ : ByteArray))) = true
            · rw [if_pos hb45] at h1
              refine OpsT.keep [2, 7, 53] (S' := [(2, .pointer (some ⟨b1, 0, none⟩)), (7, .pointer (some ⟨b12, 0, none⟩)), (53, .bool true)]) (by simp only [hb45]; kernel_rfl) ?_
              refine OpsT.pures (r := []) [7, 8, 9, 10] [2, 7, 57] (S' := [(2, .pointer (some ⟨b1, 0, none⟩)), (7, .pointer (some ⟨b12, 0, none⟩)), (57, .bool true)]) (by kernel_rfl) ?_
              refine OpsT.done ?_
              have hI := hI.mono (pick3 _ _ _ _)
              obtain ⟨Z46, hle47, hr48, hI⟩ := ownS_freeze hI
              have hI := hI.mono (pick2 _ _ _)
              obtain ⟨Z49, hle50, hr51, hI⟩ := ownS_freeze hI
              have e := someS h1
              subst e
              exact Qn.thenJ fun a ha => ⟨true, y14, y22, Z49, A15, cp16, A23, cp24, rfl, ha.keep [2, 7, 57] (by kernel_rfl), hI, (Hp.le_trans hle47 hle50), (hr48.mono hle50), hr51⟩
            · rw [if_neg hb45] at h1
              have hb45 : (!(seq y25 (⟨#[]⟩ : ByteArray))) = false := by simpa using hb45
              refine OpsT.keep [2, 7, 53] (S' := [(2, .pointer (some ⟨b1, 0, none⟩)), (7, .pointer (some ⟨b12, 0, none⟩)), (53, .bool false)]) (by simp only [hb45]; kernel_rfl) ?_
              refine OpsT.cons (Does.yi (Yl.load (d := 54) (T := 25) (v := .agg ((([.slice A15 y14.length cp16, .slice A23 y22.length cp24] : List Value))).toArray) (by kernel_rfl) (ldBN ty25 (l := (([.slice A15 y14.length cp16, .slice A23 y22.length cp24] : List Value))) (o := 0) (cs := (([.slice A15 y14.length cp16, .slice A23 y22.length cp24] : List Value))) (ent_refl _) (by kernel_rfl) (whole _ _ (by kernel_rfl)))) hI ?_)
              have hI := hI.mono (pick3 _ _ _ _)
              obtain ⟨Z52, hle53, hr54, hI⟩ := ownS_freeze hI
              have hI := hI.mono (pick2 _ _ _)
              obtain ⟨Z55, hle56, hr57, hI⟩ := ownS_freeze hI
              obtain ⟨y59, hc58, h1⟩ := bindS h1
              try dsimp only at h1
              refine OpsT.cons (Does.call (d := some 55) (n := 14) (vs := [.agg ((([.slice A15 y14.length cp16, .slice A23 y22.length cp24] : List Value))).toArray]) (by kernel_rfl) en14 (c14 w0 w _ _ hI A15 cp16 y14 (hr54.mono hle56) A23 cp24 y22 hr57 _ hc58) ?_)
              rintro e w ⟨rfl, hI⟩
              refine ⟨_, rfl, ?_⟩
              refine OpsT.pures (r := []) [9, 10] [2, 7, 57] (S' := [(2, .pointer (some ⟨b1, 0, none⟩)), (7, .pointer (some ⟨b12, 0, none⟩)), (57, .bool (!y59))]) (by kernel_rfl) ?_
              refine OpsT.done ?_
              have e := someS h1
              subst e
              exact Qn.thenJ fun a ha => ⟨!y59, y14, y22, Z55, A15, cp16, A23, cp24, rfl, ha.keep [2, 7, 57] (by kernel_rfl), hI, (Hp.le_trans hle53 hle56), (hr54.mono hle56), hr57⟩
        ·
          rintro a w ⟨x29, x30, x34, Z27, A31, cp32, A35, cp36, rfl, ha, hI, hle28, hr33, hr37⟩
          try dsimp only at h0
          refine CodT.of ?_ ha
          by_cases hb60 : x29 = true
          · rw [if_pos hb60] at h0
            refine CodT.yes' (b := x29) (by kernel_rfl) hb60 ?_
            refine CodT.seq ?_
            refine CodT.regionL [0, 1, 2] (by kernel_rfl) ?_
            refine OpsT.pures (r := [1, 2]) [0] [2, 58] (S' := [(2, .pointer (some ⟨b1, 0, none⟩)), (58, .agg ((([.slice none 0 0, .slice none 0 0] : List Value))).toArray)]) (by kernel_rfl) ?_
            have hI := hI.mono (pick2 _ _ _)
            refine OpsT.cons (Does.storeLit (T := 25) (b := b1) (o := 0) (v := .agg ((([.slice none 0 0, .slice none 0 0] : List Value))).toArray) (l := (([.slice none 0 0, .slice none 0 0] : List Value))) (vs := (([.slice none 0 0, .slice none 0 0] : List Value))) (L' := (([.slice none 0 0, .slice none 0 0] : List Value))) (by kernel_rfl) ty25 hI (by kernel_rfl) (by kernel_rfl) (by kernel_rfl) (by kernel_rfl) (by kernel_rfl) ?_)
            intro w hI
            refine OpsT.pures (r := []) [2] [2, 3] (S' := [(2, .pointer (some ⟨b1, 0, none⟩)), (3, .bool false)]) (by kernel_rfl) ?_
            refine OpsT.done ?_
            refine Qn.then ?_
            refine CodT.ret ?_
            refine Qn.ret_then ?_
            have hL61 := (ldBN ty25 (l := (([.slice none 0 0, .slice none 0 0] : List Value))) (o := 0) (cs := (([.slice none 0 0, .slice none 0 0] : List Value))) (ent_refl _) (by kernel_rfl) (whole _ _ (by kernel_rfl))) w hI
            have hI := hI.drop
            have hI := hI.drop
            have e := someS h0
            subst e
            refine Qn.keep [2, 3] (S' := [(2, .pointer (some ⟨b1, 0, none⟩)), (3, .bool false)]) (by kernel_rfl) ?_
            exact post_ret (v := .tuple #[.agg ((([.slice none 0 0, .slice none 0 0] : List Value))).toArray, .bool false]) (fun a ha => RunRes.run (vs := [.agg ((([.slice none 0 0, .slice none 0 0] : List Value))).toArray, .bool false]) (.cell (t := 2) (T := 25) (ad := ⟨b1, 0, none⟩) (by kernel_rfl) hL61 (.tmp (t := 3) (by kernel_rfl) .nil)) ha (by kernel_rfl)) ⟨none, 0, none, 0, Z27, hle28, rfl, (RdS.nil _ _ _ _ _ (Nat.zero_le _)), (RdS.nil _ _ _ _ _ (Nat.zero_le _)), hI⟩
          · rw [if_neg hb60] at h0
            refine CodT.no' (b := x29) (by kernel_rfl) (by simpa using hb60) ?_
            refine CodT.skip ?_
            refine Qn.then ?_
            refine CodT.seq ?_
            refine CodT.regionL [0, 1, 2] (by kernel_rfl) ?_
            refine OpsT.cons (Does.yi (Yl.load (d := 59) (T := 25) (v := .agg ((([.slice A31 x30.length cp32, .slice A35 x34.length cp36] : List Value))).toArray) (by kernel_rfl) (ldBN ty25 (l := (([.slice A31 x30.length cp32, .slice A35 x34.length cp36] : List Value))) (o := 0) (cs := (([.slice A31 x30.length cp32, .slice A35 x34.length cp36] : List Value))) (ent_refl _) (by kernel_rfl) (whole _ _ (by kernel_rfl)))) hI ?_)
            have hI := hI.mono (pick2 _ _ _)
            refine OpsT.cons (Does.storeLit (T := 25) (b := b1) (o := 0) (v := .agg ((([.slice A31 x30.length cp32, .slice A35 x34.length cp36] : List Value))).toArray) (l := (([.slice none 0 0, .slice none 0 0] : List Value))) (vs := (([.slice A31 x30.length cp32, .slice A35 x34.length cp36] : List Value))) (L' := (([.slice A31 x30.length cp32, .slice A35 x34.length cp36] : List Value))) (by kernel_rfl) ty25 hI (by kernel_rfl) (by kernel_rfl) (by kernel_rfl) (by kernel_rfl) (by kernel_rfl) ?_)
            intro w hI
            refine OpsT.pures (r := []) [2] [2, 3] (S' := [(2, .pointer (some ⟨b1, 0, none⟩)), (3, .bool true)]) (by kernel_rfl) ?_
            refine OpsT.done ?_
            refine Qn.then ?_
            refine CodT.ret ?_
            have hL62 := (ldBN ty25 (l := (([.slice A31 x30.length cp32, .slice A35 x34.length cp36] : List Value))) (o := 0) (cs := (([.slice A31 x30.length cp32, .slice A35 x34.length cp36] : List Value))) (ent_refl _) (by kernel_rfl) (whole _ _ (by kernel_rfl))) w hI
            have hI := hI.drop
            have hI := hI.drop
            have e := someS h0
            subst e
            refine Qn.keep [2, 3] (S' := [(2, .pointer (some ⟨b1, 0, none⟩)), (3, .bool true)]) (by kernel_rfl) ?_
            exact post_ret (v := .tuple #[.agg ((([.slice A31 x30.length cp32, .slice A35 x34.length cp36] : List Value))).toArray, .bool true]) (fun a ha => RunRes.run (vs := [.agg ((([.slice A31 x30.length cp32, .slice A35 x34.length cp36] : List Value))).toArray, .bool true]) (.cell (t := 2) (T := 25) (ad := ⟨b1, 0, none⟩) (by kernel_rfl) hL62 (.tmp (t := 3) (by kernel_rfl) .nil)) ha (by kernel_rfl)) ⟨A31, cp32, A35, cp36, Z27, hle28, rfl, hr33, hr37, hI⟩
set_option maxRecDepth 100000 in
set_option maxHeartbeats 4000000 in
/-- cenotaph/root.Find$1 -/
theorem c66 (w0 w : World) (Z : Hp) (A : HP) (hI : Inv w0 Z w A) (a0 : RootEntry) (b_a1 : Nat) (a1_v : Int) (hz_a1 : Z b_a1 = some (.cells (([.int .i64 a1_v] : List Value)).toArray 3 (0, 0))) (r : Bool) (h0 : root_Find_1 a0 a1_v = some r) :
    Calls prog 66 #[.agg (c_RootEntry a0).toArray, .pointer (some ⟨b_a1, 0, none⟩)] w (fun e w' => e = .returned (.bool r) ∧ Inv w0 Z w' A) := by
  have e4 := calls_intro (R := (fun e w' => e = .returned (.bool r) ∧ Inv w0 Z w' A)) (w := w) (args := [.agg (c_RootEntry a0).toArray, .pointer (some ⟨b_a1, 0, none⟩)]) (fn := Go.Proofs.Try.f66) 8 Go.Proofs.Try.func66 (by rfl) Go.Proofs.Try.ntmps66 (by kernel_rfl)
  refine e4 ?_
  clear e4
  unfold root_Find_1 at h0
  refine CodT.seq ?_
  refine CodT.regionL [0, 1] (by kernel_rfl) ?_
  refine OpsT.cons (Does.boxL (d := 2) (T := 47) (v := .agg (c_RootEntry a0).toArray) (c_RootEntry a0) (by kernel_rfl) hI (by kernel_rfl) ?_)
  intro b1 w hI
  refine OpsT.pures (r := []) [1] [1, 2] (S' := [(1, .pointer (some ⟨b_a1, 0, none⟩)), (2, .pointer (some ⟨b1, 0, none⟩))]) (by kernel_rfl) ?_
  refine OpsT.done ?_
  refine Qn.then ?_
  refine CodT.seq ?_
  refine CodT.regionL [0, 1, 2, 3, 4] (by kernel_rfl) ?_
  refine OpsT.pures (r := [1, 2, 3, 4]) [0] [1, 4] (S' := [(1, .pointer (some ⟨b_a1, 0, none⟩)), (4, .pointer (some ⟨b1, 0, none⟩))]) (by kernel_rfl) ?_
  refine OpsT.cons (Does.yi (Yl.load (d := 5) (T := 3) (v := .int .i64 a0.Logic) (by kernel_rfl) (ldB ty3 (l := c_RootEntry a0) (o := 0) (v := .int .i64 a0.Logic) (ent_refl _) (by kernel_rfl))) hI ?_)
  refine OpsT.cons (Does.yi (Yl.load (d := 6) (T := 3) (v := .int .i64 a1_v) (by kernel_rfl) (ldZ ty3 (l := ([.int .i64 a1_v] : List Value)) (o := 0) (v := .int .i64 a1_v) hz_a1 (by kernel_rfl))) hI ?_)
  refine OpsT.pures (r := []) [3, 4] [3] (S' := [(3, .bool (a0.Logic == a1_v))]) (by kernel_rfl) ?_
  refine OpsT.done ?_
  refine Qn.then ?_
  refine CodT.ret ?_
  have hI := hI.drop
  have e := someS h0
  subst e
  refine Qn.keep [3] (S' := [(3, .bool (a0.Logic == a1_v))]) (by kernel_rfl) ?_
  exact post_ret (v := .bool (a0.Logic == a1_v)) (fun a ha => RunRes.run (vs := [.bool (a0.Logic == a1_v)]) (.tmp (t := 3) (by kernel_rfl) .nil) ha (by kernel_rfl)) ⟨rfl, hI⟩
set_option maxRecDepth 100000 in
set_option maxHeartbeats 4000000 in
/-- slices.IndexFunc[[]cenotaph/root.Entry,cenotaph/root.Entry] -/
theorem c65_5 (w0 w : World) (Z : Hp) (A : HP) (hI : Inv w0 Z w A) (A_a0 : Option Addr) (c_a0 : Nat) (a0 : (List RootEntry)) (hr_a0 : RdS Z c_RootEntry 4 A_a0 c_a0 a0) (b_a1_c0 : Nat) (a1_c0_v : Int) (hz_a1_c0 : Z b_a1_c0 = some (.cells (([.int .i64 a1_c0_v] : List Value)).toArray 3 (0, 0))) (r : Int) (h0 : slices_IndexFunc_rootEntry__root_Find_1 a0 a1_c0_v = some r) :
    Calls prog 65 #[.slice A_a0 a0.length c_a0, .func (.func 66) #[] #[.pointer (some ⟨b_a1_c0, 0, none⟩)]] w (fun e w' => e = .returned (.int .i64 r) ∧ Inv w0 Z w' A) := by
  have e4 := calls_intro (R := (fun e w' => e = .returned (.int .i64 r) ∧ Inv w0 Z w' A)) (w := w) (args := [.slice A_a0 a0.length c_a0, .func (.func 66) #[] #[.pointer (some ⟨b_a1_c0, 0, none⟩)]]) (fn := Go.Proofs.Try.f65) 19 Go.Proofs.Try.func65 (by rfl) Go.Proofs.Try.ntmps65 (by kernel_rfl)
  refine e4 ?_
  clear e4
  unfold slices_IndexFunc_rootEntry__root_Find_1 at h0
  refine CodT.seq ?_
  refine CodT.regionL [0] (by kernel_rfl) ?_
  refine OpsT.pures (r := []) [0] [0, 1] (S' := [(0, .slice A_a0 a0.length c_a0), (1, .func (.func 66) #[] #[.pointer (some ⟨b_a1_c0, 0, none⟩)])]) (by kernel_rfl) ?_
  refine OpsT.done ?_
  refine Qn.then ?_
  refine CodT.seq ?_
  refine CodT.seq ?_
  refine CodT.regionL [0, 1, 2] (by kernel_rfl) ?_
  refine OpsT.pures (r := []) [0, 1, 2] [0, 1, 7, 8] (S' := [(0, .slice A_a0 a0.length c_a0), (1, .func (.func 66) #[] #[.pointer (some ⟨b_a1_c0, 0, none⟩)]), (7, .int .i64 (a0.length : Int)), (8, .int .i64 0)]) (by kernel_rfl) ?_
  refine OpsT.done ?_
  refine Qn.then ?_
  obtain ⟨r1, h1, h0⟩ := bindS h0
  refine CodT.meet1 (fun a w => .inr () = r1 ∧ Fr 19 [] a ∧ Inv w0 Z w A) ?_ ?_
  ·
    refine CodT.block ?_
    refine (fun a ha => wp_loopN (fun k a w => ∃ (x1 : Int), slices_IndexFunc_rootEntry__root_Find_1.l0 a0 a1_c0_v k x1 = some r1 ∧ Fr 19 [(0, .slice A_a0 a0.length c_a0), (1, .func (.func 66) #[] #[.pointer (some ⟨b_a1_c0, 0, none⟩)]), (7, .int .i64 (a0.length : Int)), (8, .int .i64 x1)] a ∧ Inv w0 Z w A) ?_ FU a w ⟨0, h1, ha.keep [0, 1, 7, 8] (by kernel_rfl), hI⟩)
    clear h1 hI
    rintro k a w ⟨x1, h1, ha, hI⟩
    rcases k with _ | k
    · cases h1
    simp only [slices_IndexFunc_rootEntry__root_Find_1.l0] at h1
    refine CodT.of ?_ ha
    refine CodT.seq ?_
    refine CodT.regionL [0] (by kernel_rfl) ?_
    refine OpsT.pures (r := []) [0] [0, 1, 7, 8, 9] (S' := [(0, .slice A_a0 a0.length c_a0), (1, .func (.func 66) #[] #[.pointer (some ⟨b_a1_c0, 0, none⟩)]), (7, .int .i64 (a0.length : Int)), (8, .int .i64 x1), (9, .bool (decide (x1 < (a0.length : Int))))]) (by kernel_rfl) ?_
    refine OpsT.done ?_
    refine Qn.then ?_
    refine CodT.seq ?_
    by_cases hb2 : (decide (x1 < (a0.length : Int))) = true
    · rw [if_pos hb2] at h1
      refine CodT.yes' (b := decide (x1 < (a0.length : Int))) (by kernel_rfl) hb2 ?_
      refine CodT.skip ?_
      refine Qn.then ?_
      refine CodT.seq ?_
      refine CodT.block ?_
      refine CodT.seq ?_
      refine CodT.regionL [0, 1] (by kernel_rfl) ?_
      refine OpsT.pures (r := []) [0, 1] [0, 1, 5, 7, 8] (S' := [(0, .slice A_a0 a0.length c_a0), (1, .func (.func 66) #[] #[.pointer (some ⟨b_a1_c0, 0, none⟩)]), (5, .int .i64 x1), (7, .int .i64 (a0.length : Int)), (8, .int .i64 x1)]) (by kernel_rfl) ?_
      refine OpsT.done ?_
      refine Qn.then ?_
      refine CodT.seq ?_
      refine CodT.regionL [0, 1, 2, 3, 4, 5] (by kernel_rfl) ?_
      refine OpsT.pures (r := [3, 4, 5]) [0, 1, 2] [0, 1, 5, 7, 8, 11, 12, 13] (S' := [(0, .slice A_a0 a0.length c_a0), (1, .func (.func 66) #[] #[.pointer (some ⟨b_a1_c0, 0, none⟩)]), (5, .int .i64 x1), (7, .int .i64 (a0.length : Int)), (8, .int .i64 x1), (11, .func (.func 66) #[] #[.pointer (some ⟨b_a1_c0, 0, none⟩)]), (12, .slice A_a0 a0.length c_a0), (13, .int .i64 x1)]) (by kernel_rfl) ?_
      obtain ⟨hg3, h1⟩ := guardS h1
      obtain ⟨g4, o8, hA5, hr6, hl7⟩ := RdS.get hr_a0 hg3.1 hg3.2
      refine OpsT.cons (Does.yi (Yl.indexSlice (d := 14) (T := 22) (cc := c_a0) (k := .i64) (j := x1) (g := g4) (o := o8) (by kernel_rfl) Go.Proofs.Try.underlying22 ty47 hA5 hg3.1 hg3.2) hI ?_)
      refine OpsT.cons (Does.yi (Yl.load (d := 15) (T := 47) (v := .agg (c_RootEntry (gt a0 x1)).toArray) (by kernel_rfl) (ldRN ty47 (cs := c_RootEntry (gt a0 x1)) 0 (fun w hC => hr6 w0 w _ hC) hl7 (whole _ _ hl7))) hI ?_)
      obtain ⟨y10, hc9, h1⟩ := bindS h1
      try dsimp only at h1
      refine OpsT.cons (Does.call (d := some 16) (n := 66) (vs := [.agg (c_RootEntry (gt a0 x1)).toArray, .pointer (some ⟨b_a1_c0, 0, none⟩)]) (by kernel_rfl) en66 (c66 w0 w _ _ hI (gt a0 x1) b_a1_c0 a1_c0_v hz_a1_c0 _ hc9) ?_)
      rintro e w ⟨rfl, hI⟩
      refine ⟨_, rfl, ?_⟩
      refine OpsT.done ?_
      refine Qn.then ?_
      by_cases hb11 : y10 = true
      · rw [if_pos hb11] at h1
        refine CodT.yes' (b := y10) (by kernel_rfl) hb11 ?_
        refine CodT.seq ?_
        refine CodT.regionL [0, 1] (by kernel_rfl) ?_
        refine OpsT.pures (r := []) [0, 1] [4] (S' := [(4, .int .i64 x1)]) (by kernel_rfl) ?_
        refine OpsT.done ?_
        refine Qn.then ?_
        refine CodT.ret ?_
        refine Qn.block_ret ?_
        refine Qn.ret_then ?_
        refine Qn.ret_then ?_
        refine Qn.block_ret ?_
        refine Qn.ret_then ?_
        refine Qn.ret_then ?_
        have e := someS h1
        subst e
        try dsimp only at h0
        have e := someS h0
        subst e
        refine Qn.keep [4] (S' := [(4, .int .i64 x1)]) (by kernel_rfl) ?_
        exact post_ret (v := .int .i64 x1) (fun a ha => RunRes.run (vs := [.int .i64 x1]) (.tmp (t := 4) (by kernel_rfl) .nil) ha (by kernel_rfl)) ⟨rfl, hI⟩
      · rw [if_neg hb11] at h1
        refine CodT.no' (b := y10) (by kernel_rfl) (by simpa using hb11) ?_
        refine CodT.skip ?_
        refine Qn.block_normal ?_
        refine Qn.then ?_
        refine CodT.regionL [0, 1] (by kernel_rfl) ?_
        refine OpsT.pures (r := []) [0, 1] [0, 1, 7, 8] (S' := [(0, .slice A_a0 a0.length c_a0), (1, .func (.func 66) #[] #[.pointer (some ⟨b_a1_c0, 0, none⟩)]), (7, .int .i64 (a0.length : Int)), (8, .int .i64 (wi64 (x1 + 1)))]) (by kernel_rfl) ?_
        refine OpsT.done ?_
        exact Qn.thenJ fun a ha => ⟨k, Nat.lt_succ_self k, wi64 (x1 + 1), h1, ha.keep [0, 1, 7, 8] (by kernel_rfl), hI⟩
    · rw [if_neg hb2] at h1
      refine CodT.no' (b := decide (x1 < (a0.length : Int))) (by kernel_rfl) (by simpa using hb2) ?_
      refine CodT.exit ?_
      refine Qn.exit_then ?_
      refine Qn.exit_then ?_
      refine Qn.block ?_
      have e := someS h1
      subst e
      exact Qn.thenJ fun a ha => ⟨rfl, ha.keep [] (by kernel_rfl), hI⟩
  ·
    rintro a w ⟨rfl, ha, hI⟩
    try dsimp only at h0
    refine Qn.of ?_ ha
    refine Qn.then ?_
    refine CodT.seq ?_
    refine CodT.regionL [0] (by kernel_rfl) ?_
    refine OpsT.pures (r := []) [0] [4] (S' := [(4, .int .i64 (-1))]) (by kernel_rfl) ?_
    refine OpsT.done ?_
    refine Qn.then ?_
    refine CodT.ret ?_
    have e := someS h0
    subst e
    refine Qn.keep [4] (S' := [(4, .int .i64 (-1))]) (by kernel_rfl) ?_
    exact post_ret (v := .int .i64 (-1)) (fun a ha => RunRes.run (vs := [.int .i64 (-1)]) (.tmp (t := 4) (by kernel_rfl) .nil) ha (by kernel_rfl)) ⟨rfl, hI⟩
set_option maxRecDepth 100000 in
set_option maxHeartbeats 4000000 in
/-- cenotaph/root.Find -/
theorem c24 (w0 w : World) (Z : Hp) (A : HP) (hI : Inv w0 Z w A) (A_a0_Map : Option Addr) (c_a0_Map : Nat) (a0_Map : (List RootEntry)) (hr_a0_Map : RdS Z c_RootEntry 4 A_a0_Map c_a0_Map a0_Map) (A_a0_Gone : Option Addr) (c_a0_Gone : Nat) (a0_Gone : (List Int)) (hr_a0_Gone : RdS Z (cI .i64) 1 A_a0_Gone c_a0_Gone a0_Gone) (a1 : Int) (r : (RootEntry × Bool)) (h0 : root_Find a0_Map a0_Gone a1 = some r) :
    Calls prog 24 #[.agg ((([.slice A_a0_Map a0_Map.length c_a0_Map, .slice A_a0_Gone a0_Gone.length c_a0_Gone] : List Value))).toArray, .int .i64 a1] w (fun e w' => e = .returned (.tuple #[.agg (c_RootEntry r.1).toArray, .bool r.2]) ∧ Inv w0 Z w' A) := by
  have e4 := calls_intro (R := (fun e w' => e = .returned (.tuple #[.agg (c_RootEntry r.1).toArray, .bool r.2]) ∧ Inv w0 Z w' A)) (w := w) (args := [.agg ((([.slice A_a0_Map a0_Map.length c_a0_Map, .slice A_a0_Gone a0_Gone.length c_a0_Gone] : List Value))).toArray, .int .i64 a1]) (fn := Go.Proofs.Try.f24) 19 Go.Proofs.Try.func24 (by rfl) Go.Proofs.Try.ntmps24 (by kernel_rfl)
  refine e4 ?_
  clear e4
  unfold root_Find at h0
  refine CodT.seq ?_
  refine CodT.regionL [0, 1, 2, 3] (by kernel_rfl) ?_
  refine OpsT.cons (Does.boxL (d := 2) (T := 25) (v := .agg ((([.slice A_a0_Map a0_Map.length c_a0_Map, .slice A_a0_Gone a0_Gone.length c_a0_Gone] : List Value))).toArray) ((([.slice A_a0_Map a0_Map.length c_a0_Map, .slice A_a0_Gone a0_Gone.length c_a0_Gone] : List Value))) (by kernel_rfl) hI (by kernel_rfl) ?_)
  intro b1 w hI
  refine OpsT.cons (Does.boxL (d := 3) (T := 3) (v := .int .i64 a1) (([.int .i64 a1] : List Value)) (by kernel_rfl) hI (by kernel_rfl) ?_)
  intro b2 w hI
  refine OpsT.cons (Does.allocL (d := 4) (T := 47) (c_RootEntry (RootEntry.mk 0 0 0 0)) (by kernel_rfl) ty47 hI (by kernel_rfl) ?_)
  intro b3 w hI
  refine OpsT.pures (r := []) [3] [2, 3, 4] (S' := [(2, .pointer (some ⟨b1, 0, none⟩)), (3, .pointer (some ⟨b2, 0, none⟩)), (4, .pointer (some ⟨b3, 0, none⟩))]) (by kernel_rfl) ?_
  refine OpsT.done ?_
  refine Qn.then ?_
  refine CodT.seq ?_
  have hI := hI.mono (pick2 _ _ _)
  obtain ⟨Z4, hle5, hz6, hI⟩ := pt_freeze hI
  refine CodT.regionL [0, 1, 2, 3, 4] (by kernel_rfl) ?_
  refine OpsT.pures (r := [1, 2, 3, 4]) [0] [2, 3, 4, 7] (S' := [(2, .pointer (some ⟨b1, 0, none⟩)), (3, .pointer (some ⟨b2, 0, none⟩)), (4, .pointer (some ⟨b3, 0, none⟩)), (7, .pointer (some ⟨b1, 0, none⟩))]) (by kernel_rfl) ?_
  refine OpsT.cons (Does.yi (Yl.load (d := 8) (T := 22) (v := .slice A_a0_Map a0_Map.length c_a0_Map) (by kernel_rfl) (ldB ty22 (l := (([.slice A_a0_Map a0_Map.length c_a0_Map, .slice A_a0_Gone a0_Gone.length c_a0_Gone] : List Value))) (o := 0) (v := .slice A_a0_Map a0_Map.length c_a0_Map) (pick2 _ _ _) (by kernel_rfl))) hI ?_)
  refine OpsT.pures (r := [3, 4]) [2] [2, 4, 8, 9] (S' := [(2, .pointer (some ⟨b1, 0, none⟩)), (4, .pointer (some ⟨b3, 0, none⟩)), (8, .slice A_a0_Map a0_Map.length c_a0_Map), (9, .func (.func 66) #[] #[.pointer (some ⟨b2, 0, none⟩)])]) (by kernel_rfl) ?_
  obtain ⟨y8, hc7, h0⟩ := bindS h0
  try dsimp only at h0
  refine OpsT.cons (Does.call (d := some 10) (n := 65) (vs := [.slice A_a0_Map a0_Map.length c_a0_Map, .func (.func 66) #[] #[.pointer (some ⟨b2, 0, none⟩)]]) (by kernel_rfl) en65 (c65_5 w0 w _ _ hI A_a0_Map c_a0_Map a0_Map (hr_a0_Map.mono hle5) b2 a1 hz6 _ hc7) ?_)
  rintro e w ⟨rfl, hI⟩
  refine ⟨_, rfl, ?_⟩
  refine OpsT.pures (r := []) [4] [2, 4, 6] (S' := [(2, .pointer (some ⟨b1, 0, none⟩)), (4, .pointer (some ⟨b3, 0, none⟩)), (6, .int .i64 y8)]) (by kernel_rfl) ?_
  refine OpsT.done ?_
  refine Qn.then ?_
  refine CodT.seq ?_
  refine CodT.seq ?_
  refine CodT.regionL [0, 1] (by kernel_rfl) ?_
  refine OpsT.pures (r := []) [0, 1] [2, 4, 6, 12] (S' := [(2, .pointer (some ⟨b1, 0, none⟩)), (4, .pointer (some ⟨b3, 0, none⟩)), (6, .int .i64 y8), (12, .bool (decide (y8 < 0)))]) (by kernel_rfl) ?_
  refine OpsT.done ?_
  refine Qn.then ?_
  by_cases hb9 : (decide (y8 < 0)) = true
  · rw [if_pos hb9] at h0
    refine CodT.yes' (b := decide (y8 < 0)) (by kernel_rfl) hb9 ?_
    refine CodT.seq ?_
    refine CodT.regionL [0, 1, 2] (by kernel_rfl) ?_
    refine OpsT.pures (r := [1, 2]) [0] [4, 13] (S' := [(4, .pointer (some ⟨b3, 0, none⟩)), (13, .agg (c_RootEntry (RootEntry.mk 0 0 0 0)).toArray)]) (by kernel_rfl) ?_
    refine OpsT.cons (Does.storeLit (T := 47) (b := b3) (o := 0) (v := .agg (c_RootEntry (RootEntry.mk 0 0 0 0)).toArray) (l := c_RootEntry (RootEntry.mk 0 0 0 0)) (vs := c_RootEntry (RootEntry.mk 0 0 0 0)) (L' := c_RootEntry (RootEntry.mk 0 0 0 0)) (by kernel_rfl) ty47 hI (by kernel_rfl) (by kernel_rfl) (by kernel_rfl) (by kernel_rfl) (by kernel_rfl) ?_)
    intro w hI
    refine OpsT.pures (r := []) [2] [4, 5] (S' := [(4, .pointer (some ⟨b3, 0, none⟩)), (5, .bool false)]) (by kernel_rfl) ?_
    refine OpsT.done ?_
    refine Qn.then ?_
    refine CodT.ret ?_
    refine Qn.ret_then ?_
    have hL10 := (ldBN ty47 (l := c_RootEntry (RootEntry.mk 0 0 0 0)) (o := 0) (cs := c_RootEntry (RootEntry.mk 0 0 0 0)) (ent_refl _) (by kernel_rfl) (whole _ _ (by kernel_rfl))) w hI
    have hI := hI.drop
    have hI := hI.drop
    have e := someS h0
    subst e
    refine Qn.keep [4, 5] (S' := [(4, .pointer (some ⟨b3, 0, none⟩)), (5, .bool false)]) (by kernel_rfl) ?_
    exact post_ret (v := .tuple #[.agg (c_RootEntry (RootEntry.mk 0 0 0 0)).toArray, .bool false]) (fun a ha => RunRes.run (vs := [.agg (c_RootEntry (RootEntry.mk 0 0 0 0)).toArray, .bool false]) (.cell (t := 4) (T := 47) (ad := ⟨b3, 0, none⟩) (by kernel_rfl) hL10 (.tmp (t := 5) (by kernel_rfl) .nil)) ha (by kernel_rfl)) ⟨rfl, hI.weaken hle5⟩
  · rw [if_neg hb9] at h0
    refine CodT.no' (b := decide (y8 < 0)) (by kernel_rfl) (by simpa using hb9) ?_
    refine CodT.skip ?_
    refine Qn.then ?_
    refine CodT.seq ?_
    refine CodT.regionL [0, 1, 2, 3, 4, 5, 6] (by kernel_rfl) ?_
    refine OpsT.pures (r := [1, 2, 3, 4, 5, 6]) [0] [4, 6, 14] (S' := [(4, .pointer (some ⟨b3, 0, none⟩)), (6, .int .i64 y8), (14, .pointer (some ⟨b1, 0, none⟩))]) (by kernel_rfl) ?_
    refine OpsT.cons (Does.yi (Yl.load (d := 15) (T := 22) (v := .slice A_a0_Map a0_Map.length c_a0_Map) (by kernel_rfl) (ldB ty22 (l := (([.slice A_a0_Map a0_Map.length c_a0_Map, .slice A_a0_Gone a0_Gone.length c_a0_Gone] : List Value))) (o := 0) (v := .slice A_a0_Map a0_Map.length c_a0_Map) (pick2 _ _ _) (by kernel_rfl))) hI ?_)
    refine OpsT.pures (r := [3, 4, 5, 6]) [2] [4, 15, 16] (S' := [(4, .pointer (some ⟨b3, 0, none⟩)), (15, .slice A_a0_Map a0_Map.length c_a0_Map), (16, .int .i64 y8)]) (by kernel_rfl) ?_
    obtain ⟨hg11, h0⟩ := guardS h0
    obtain ⟨g12, o16, hA13, hr14, hl15⟩ := RdS.get (hr_a0_Map.mono hle5) hg11.1 hg11.2
    refine OpsT.cons (Does.yi (Yl.indexSlice (d := 17) (T := 22) (cc := c_a0_Map) (k := .i64) (j := y8) (g := g12) (o := o16) (by kernel_rfl) Go.Proofs.Try.underlying22 ty47 hA13 hg11.1 hg11.2) hI ?_)
    refine OpsT.cons (Does.yi (Yl.load (d := 18) (T := 47) (v := .agg (c_RootEntry (gt a0_Map y8)).toArray) (by kernel_rfl) (ldRN ty47 (cs := c_RootEntry (gt a0_Map y8)) 0 (fun w hC => hr14 w0 w _ hC) hl15 (whole _ _ hl15))) hI ?_)
    refine OpsT.cons (Does.storeLit (T := 47) (b := b3) (o := 0) (v := .agg (c_RootEntry (gt a0_Map y8)).toArray) (l := c_RootEntry (RootEntry.mk 0 0 0 0)) (vs := c_RootEntry (gt a0_Map y8)) (L' := c_RootEntry (gt a0_Map y8)) (by kernel_rfl) ty47 hI (by kernel_rfl) (by kernel_rfl) (by kernel_rfl) (by kernel_rfl) (by kernel_rfl) ?_)
    intro w hI
    refine OpsT.pures (r := []) [6] [4, 5] (S' := [(4, .pointer (some ⟨b3, 0, none⟩)), (5, .bool true)]) (by kernel_rfl) ?_
    refine OpsT.done ?_
    refine Qn.then ?_
    refine CodT.ret ?_
    have hL17 := (ldBN ty47 (l := c_RootEntry (gt a0_Map y8)) (o := 0) (cs := c_RootEntry (gt a0_Map y8)) (ent_refl _) (by kernel_rfl) (whole _ _ (by kernel_rfl))) w hI
    have hI := hI.drop
    have hI := hI.drop
    have e := someS h0
    subst e
    refine Qn.keep [4, 5] (S' := [(4, .pointer (some ⟨b3, 0, none⟩)), (5, .bool true)]) (by kernel_rfl) ?_
    exact post_ret (v := .tuple #[.agg (c_RootEntry (gt a0_Map y8)).toArray, .bool true]) (fun a ha => RunRes.run (vs := [.agg (c_RootEntry (gt a0_Map y8)).toArray, .bool true]) (.cell (t := 4) (T := 47) (ad := ⟨b3, 0, none⟩) (by kernel_rfl) hL17 (.tmp (t := 5) (by kernel_rfl) .nil)) ha (by kernel_rfl)) ⟨rfl, hI.weaken hle5⟩
set_option maxRecDepth 100000 in
set_option maxHeartbeats 4000000 in
/-- cenotaph/root.Drop$1 -/
theorem c63 (w0 w : World) (Z : Hp) (A : HP) (hI : Inv w0 Z w A) (a0 : RootEntry) (b_a1 : Nat) (a1_v : Int) (hz_a1 : Z b_a1 = some (.cells (([.int .i64 a1_v] : List Value)).toArray 3 (0, 0))) (r : Bool) (h0 : root_Drop_1 a0 a1_v = some r) :
    Calls prog 63 #[.agg (c_RootEntry a0).toArray, .pointer (some ⟨b_a1, 0, none⟩)] w (fun e w' => e = .returned (.bool r) ∧ Inv w0 Z w' A) := by
  have e4 := calls_intro (R := (fun e w' => e = .returned (.bool r) ∧ Inv w0 Z w' A)) (w := w) (args := [.agg (c_RootEntry a0).toArray, .pointer (some ⟨b_a1, 0, none⟩)]) (fn := Go.Proofs.Try.f63) 8 Go.Proofs.Try.func63 (by rfl) Go.Proofs.Try.ntmps63 (by kernel_rfl)
  refine e4 ?_
  clear e4
  unfold root_Drop_1 at h0
  refine CodT.seq ?_
  refine CodT.regionL [0, 1] (by kernel_rfl) ?_
  refine OpsT.cons (Does.boxL (d := 2) (T := 47) (v := .agg (c_RootEntry a0).toArray) (c_RootEntry a0) (by kernel_rfl) hI (by kernel_rfl) ?_)
  intro b1 w hI
  refine OpsT.pures (r := []) [1] [1, 2] (S' := [(1, .pointer (some ⟨b_a1, 0, none⟩)), (2, .pointer (some ⟨b1, 0, none⟩))]) (by kernel_rfl) ?_
  refine OpsT.done ?_
  refine Qn.then ?_
  refine CodT.seq ?_
  refine CodT.regionL [0, 1, 2, 3, 4] (by kernel_rfl) ?_
  refine OpsT.pures (r := [1, 2, 3, 4]) [0] [1, 4] (S' := [(1, .pointer (some ⟨b_a1, 0, none⟩)), (4, .pointer (some ⟨b1, 0, none⟩))]) (by kernel_rfl) ?_
  refine OpsT.cons (Does.yi (Yl.load (d := 5) (T := 3) (v := .int .i64 a0.Logic) (by kernel_rfl) (ldB ty3 (l := c_RootEntry a0) (o := 0) (v := .int .i64 a0.Logic) (ent_refl _) (by kernel_rfl))) hI ?_)
  refine OpsT.cons (Does.yi (Yl.load (d := 6) (T := 3) (v := .int .i64 a1_v) (by kernel_rfl) (ldZ ty3 (l := ([.int .i64 a1_v] : List Value)) (o := 0) (v := .int .i64 a1_v) hz_a1 (by kernel_rfl))) hI ?_)
  refine OpsT.pures (r := []) [3, 4] [3] (S' := [(3, .bool (a0.Logic == a1_v))]) (by kernel_rfl) ?_
  refine OpsT.done ?_
  refine Qn.then ?_
  refine CodT.ret ?_
  have hI := hI.drop
  have e := someS h0
  subst e
  refine Qn.keep [3] (S' := [(3, .bool (a0.Logic == a1_v))]) (by kernel_rfl) ?_
  exact post_ret (v := .bool (a0.Logic == a1_v)) (fun a ha => RunRes.run (vs := [.bool (a0.Logic == a1_v)]) (.tmp (t := 3) (by kernel_rfl) .nil) ha (by kernel_rfl)) ⟨rfl, hI⟩
set_option maxRecDepth 100000 in
set_option maxHeartbeats 4000000 in
/-- slices.IndexFunc[[]cenotaph/root.Entry,cenotaph/root.Entry] -/
theorem c65_6 (w0 w : World) (Z : Hp) (A : HP)  (A_a0 : Option Addr) (c_a0 : Nat) (a0 : (List RootEntry)) (b_a1_c0 : Nat) (a1_c0_v : Int) (hz_a1_c0 : Z b_a1_c0 = some (.cells (([.int .i64 a1_c0_v] : List Value)).toArray 3 (0, 0))) (hI : Inv w0 Z w (star (ownS 47 c_RootEntry 4 A_a0 c_a0 a0) A)) (r : (Int × (List RootEntry))) (h0 : slices_IndexFunc_rootEntry__root_Drop_1_m a0 a1_c0_v = some r) :
    Calls prog 65 #[.slice A_a0 a0.length c_a0, .func (.func 63) #[] #[.pointer (some ⟨b_a1_c0, 0, none⟩)]] w (fun e w' => e = .returned (.int .i64 r.1) ∧ r.2.length = a0.length ∧ Inv w0 Z w' (star (ownS 47 c_RootEntry 4 A_a0 c_a0 r.2) A)) := by
  have e4 := calls_intro (R := (fun e w' => e = .returned (.int .i64 r.1) ∧ r.2.length = a0.length ∧ Inv w0 Z w' (star (ownS 47 c_RootEntry 4 A_a0 c_a0 r.2) A))) (w := w) (args := [.slice A_a0 a0.length c_a0, .func (.func 63) #[] #[.pointer (some ⟨b_a1_c0, 0, none⟩)]]) (fn := Go.Proofs.Try.f65) 19 Go.Proofs.Try.func65 (by rfl) Go.Proofs.Try.ntmps65 (by kernel_rfl)
  refine e4 ?_
  clear e4
  unfold slices_IndexFunc_rootEntry__root_Drop_1_m at h0
  refine CodT.seq ?_
  refine CodT.regionL [0] (by kernel_rfl) ?_
  refine OpsT.pures (r := []) [0] [0, 1] (S' := [(0, .slice A_a0 a0.length c_a0), (1, .func (.func 63) #[] #[.pointer (some ⟨b_a1_c0, 0, none⟩)])]) (by kernel_rfl) ?_
  refine OpsT.done ?_
  refine Qn.then ?_
  refine CodT.seq ?_
  refine CodT.seq ?_
  refine CodT.regionL [0, 1, 2] (by kernel_rfl) ?_
  refine OpsT.pures (r := []) [0, 1, 2] [0, 1, 7, 8] (S' := [(0, .slice A_a0 a0.length c_a0), (1, .func (.func 63) #[] #[.pointer (some ⟨b_a1_c0, 0, none⟩)]), (7, .int .i64 (a0.length : Int)), (8, .int .i64 0)]) (by kernel_rfl) ?_
  refine OpsT.done ?_
  refine Qn.then ?_
  obtain ⟨r1, h1, h0⟩ := bindS h0
  refine CodT.meet1 (fun a w => .inr () = r1 ∧ Fr 19 [] a ∧ Inv w0 Z w (star (ownS 47 c_RootEntry 4 A_a0 c_a0 a0) A)) ?_ ?_
  ·
    refine CodT.block ?_
    refine (fun a ha => wp_loopN (fun k a w => ∃ (x1 : Int), slices_IndexFunc_rootEntry__root_Drop_1_m.l0 a0 a1_c0_v k x1 = some r1 ∧ Fr 19 [(0, .slice A_a0 a0.length c_a0), (1, .func (.func 63) #[] #[.pointer (some ⟨b_a1_c0, 0, none⟩)]), (7, .int .i64 (a0.length : Int)), (8, .int .i64 x1)] a ∧ Inv w0 Z w (star (ownS 47 c_RootEntry 4 A_a0 c_a0 a0) A)) ?_ FU a w ⟨0, h1, ha.keep [0, 1, 7, 8] (by kernel_rfl), hI⟩)
    clear h1 hI
    rintro k a w ⟨x1, h1, ha, hI⟩
    rcases k with _ | k
    · cases h1
    simp only [slices_IndexFunc_rootEntry__root_Drop_1_m.l0] at h1
    refine CodT.of ?_ ha
    refine CodT.seq ?_
    refine CodT.regionL [0] (by kernel_rfl) ?_
    refine OpsT.pures (r := []) [0] [0, 1, 7, 8, 9] (S' := [(0, .slice A_a0 a0.length c_a0), (1, .func (.func 63) #[] #[.pointer (some ⟨b_a1_c0, 0, none⟩)]), (7, .int .i64 (a0.length : Int)), (8, .int .i64 x1), (9, .bool (decide (x1 < (a0.length : Int))))]) (by kernel_rfl) ?_
    refine OpsT.done ?_
    refine Qn.then ?_
    refine CodT.seq ?_
    by_cases hb2 : (decide (x1 < (a0.length : Int))) = true
    · rw [if_pos hb2] at h1
      refine CodT.yes' (b := decide (x1 < (a0.length : Int))) (by kernel_rfl) hb2 ?_
      refine CodT.skip ?_
      refine Qn.then ?_
      refine CodT.seq ?_
      refine CodT.block ?_
      refine CodT.seq ?_
      refine CodT.regionL [0, 1] (by kernel_rfl) ?_
      refine OpsT.pures (r := []) [0, 1] [0, 1, 5, 7, 8] (S' := [(0, .slice A_a0 a0.length c_a0), (1, .func (.func 63) #[] #[.pointer (some ⟨b_a1_c0, 0, none⟩)]), (5, .int .i64 x1), (7, .int .i64 (a0.length : Int)), (8, .int .i64 x1)]) (by kernel_rfl) ?_
      refine OpsT.done ?_
      refine Qn.then ?_
      refine CodT.seq ?_
      refine CodT.regionL [0, 1, 2, 3, 4, 5] (by kernel_rfl) ?_
      refine OpsT.pures (r := [3, 4, 5]) [0, 1, 2] [0, 1, 5, 7, 8, 11, 12, 13] (S' := [(0, .slice A_a0 a0.length c_a0), (1, .func (.func 63) #[] #[.pointer (some ⟨b_a1_c0, 0, none⟩)]), (5, .int .i64 x1), (7, .int .i64 (a0.length : Int)), (8, .int .i64 x1), (11, .func (.func 63) #[] #[.pointer (some ⟨b_a1_c0, 0, none⟩)]), (12, .slice A_a0 a0.length c_a0), (13, .int .i64 x1)]) (by kernel_rfl) ?_
      obtain ⟨hg3, h1⟩ := guardS h1
      obtain ⟨g4, hA5, hr6, hl7⟩ := ownS_get hI hg3.1 hg3.2
      refine OpsT.cons (Does.yi (Yl.indexSlice (d := 14) (T := 22) (cc := c_a0) (k := .i64) (j := x1) (g := g4) (o := 0) (by kernel_rfl) Go.Proofs.Try.underlying22 ty47 hA5 hg3.1 hg3.2) hI ?_)
      refine OpsT.cons (Does.yi (Yl.load (d := 15) (T := 47) (v := .agg (c_RootEntry (gt a0 x1)).toArray) (by kernel_rfl) (ldRN ty47 (cs := c_RootEntry (gt a0 x1)) 0 (fun w hC => hr6 w0 w _ hC) hl7 (whole _ _ hl7))) hI ?_)
      obtain ⟨y9, hc8, h1⟩ := bindS h1
      try dsimp only at h1
      refine OpsT.cons (Does.call (d := some 16) (n := 63) (vs := [.agg (c_RootEntry (gt a0 x1)).toArray, .pointer (some ⟨b_a1_c0, 0, none⟩)]) (by kernel_rfl) en63 (c63 w0 w _ _ hI (gt a0 x1) b_a1_c0 a1_c0_v hz_a1_c0 _ hc8) ?_)
      rintro e w ⟨rfl, hI⟩
      refine ⟨_, rfl, ?_⟩
      refine OpsT.done ?_
      refine Qn.then ?_
      by_cases hb10 : y9 = true
      · rw [if_pos hb10] at h1
        refine CodT.yes' (b := y9) (by kernel_rfl) hb10 ?_
        refine CodT.seq ?_
        refine CodT.regionL [0, 1] (by kernel_rfl) ?_
        refine OpsT.pures (r := []) [0, 1] [4] (S' := [(4, .int .i64 x1)]) (by kernel_rfl) ?_
        refine OpsT.done ?_
        refine Qn.then ?_
        refine CodT.ret ?_
        refine Qn.block_ret ?_
        refine Qn.ret_then ?_
        refine Qn.ret_then ?_
        refine Qn.block_ret ?_
        refine Qn.ret_then ?_
        refine Qn.ret_then ?_
        have e := someS h1
        subst e
        try dsimp only at h0
        have e := someS h0
        subst e
        refine Qn.keep [4] (S' := [(4, .int .i64 x1)]) (by kernel_rfl) ?_
        exact post_ret (v := .int .i64 x1) (fun a ha => RunRes.run (vs := [.int .i64 x1]) (.tmp (t := 4) (by kernel_rfl) .nil) ha (by kernel_rfl)) ⟨rfl, rfl, hI⟩
      · rw [if_neg hb10] at h1
        refine CodT.no' (b := y9) (by kernel_rfl) (by simpa using hb10) ?_
        refine CodT.skip ?_
        refine Qn.block_normal ?_
        refine Qn.then ?_
        refine CodT.regionL [0, 1] (by kernel_rfl) ?_
        refine OpsT.pures (r := []) [0, 1] [0, 1, 7, 8] (S' := [(0, .slice A_a0 a0.length c_a0), (1, .func (.func 63) #[] #[.pointer (some ⟨b_a1_c0, 0, none⟩)]), (7, .int .i64 (a0.length : Int)), (8, .int .i64 (wi64 (x1 + 1)))]) (by kernel_rfl) ?_
        refine OpsT.done ?_
        exact Qn.thenJ fun a ha => ⟨k, Nat.lt_succ_self k, wi64 (x1 + 1), h1, ha.keep [0, 1, 7, 8] (by kernel_rfl), hI⟩
    · rw [if_neg hb2] at h1
      refine CodT.no' (b := decide (x1 < (a0.length : Int))) (by kernel_rfl) (by simpa using hb2) ?_
      refine CodT.exit ?_
      refine Qn.exit_then ?_
      refine Qn.exit_then ?_
      refine Qn.block ?_
      have e := someS h1
      subst e
      exact Qn.thenJ fun a ha => ⟨rfl, ha.keep [] (by kernel_rfl), hI⟩
  ·
    rintro a w ⟨rfl, ha, hI⟩
    try dsimp only at h0
    refine Qn.of ?_ ha
    refine Qn.then ?_
    refine CodT.seq ?_
    refine CodT.regionL [0] (by kernel_rfl) ?_
    refine OpsT.pures (r := []) [0] [4] (S' := [(4, .int .i64 (-1))]) (by kernel_rfl) ?_
    refine OpsT.done ?_
    refine Qn.then ?_
    refine CodT.ret ?_
    have e := someS h0
    subst e
    refine Qn.keep [4] (S' := [(4, .int .i64 (-1))]) (by kernel_rfl) ?_
    exact post_ret (v := .int .i64 (-1)) (fun a ha => RunRes.run (vs := [.int .i64 (-1)]) (.tmp (t := 4) (by kernel_rfl) .nil) ha (by kernel_rfl)) ⟨rfl, rfl, hI⟩
set_option maxRecDepth 100000 in
set_option maxHeartbeats 4000000 in
/-- slices.DeleteFunc[[]cenotaph/root.Entry,cenotaph/root.Entry] -/
theorem c61_2 (w0 w : World) (Z : Hp) (A : HP)  (A_a0 : Option Addr) (c_a0 : Nat) (a0 : (List RootEntry)) (b_a1_c0 : Nat) (a1_c0_v : Int) (hz_a1_c0 : Z b_a1_c0 = some (.cells (([.int .i64 a1_c0_v] : List Value)).toArray 3 (0, 0))) (hI : Inv w0 Z w (star (ownS 47 c_RootEntry 4 A_a0 c_a0 a0) A)) (r : (List RootEntry)) (h0 : slices_DeleteFunc_rootEntry__root_Drop_1 a0 a1_c0_v = some r) :
    Calls prog 61 #[.slice A_a0 a0.length c_a0, .func (.func 63) #[] #[.pointer (some ⟨b_a1_c0, 0, none⟩)]] w (fun e w' => ∃ (A1 : Option Addr) (c1 : Nat), e = .returned (.slice A1 r.length c1) ∧ Inv w0 Z w' (star (ownS 47 c_RootEntry 4 A1 c1 r) A)) := by
  have e4 := calls_intro (R := (fun e w' => ∃ (A1 : Option Addr) (c1 : Nat), e = .returned (.slice A1 r.length c1) ∧ Inv w0 Z w' (star (ownS 47 c_RootEntry 4 A1 c1 r) A))) (w := w) (args := [.slice A_a0 a0.length c_a0, .func (.func 63) #[] #[.pointer (some ⟨b_a1_c0, 0, none⟩)]]) (fn := Go.Proofs.Try.f61) 42 Go.Proofs.Try.func61 (by rfl) Go.Proofs.Try.ntmps61 (by kernel_rfl)
  refine e4 ?_
  clear e4
  unfold slices_DeleteFunc_rootEntry__root_Drop_1 at h0
  refine CodT.seq ?_
  refine CodT.regionL [0] (by kernel_rfl) ?_
  refine OpsT.pures (r := []) [0] [0, 1] (S' := [(0, .slice A_a0 a0.length c_a0), (1, .func (.func 63) #[] #[.pointer (some ⟨b_a1_c0, 0, none⟩)])]) (by kernel_rfl) ?_
  refine OpsT.done ?_
  refine Qn.then ?_
  refine CodT.seq ?_
  refine CodT.regionL [0, 1, 2, 3] (by kernel_rfl) ?_
  refine OpsT.pures (r := [2, 3]) [0, 1] [0, 1, 8, 9] (S' := [(0, .slice A_a0 a0.length c_a0), (1, .func (.func 63) #[] #[.pointer (some ⟨b_a1_c0, 0, none⟩)]), (8, .slice A_a0 a0.length c_a0), (9, .func (.func 63) #[] #[.pointer (some ⟨b_a1_c0, 0, none⟩)])]) (by kernel_rfl) ?_
  obtain ⟨⟨y2, y3⟩, hc1, h0⟩ := bindS h0
  try dsimp only at h0
  refine OpsT.cons (Does.call (d := some 10) (n := 65) (vs := [.slice A_a0 a0.length c_a0, .func (.func 63) #[] #[.pointer (some ⟨b_a1_c0, 0, none⟩)]]) (by kernel_rfl) en65 (c65_6 w0 w _ _ A_a0 c_a0 a0 b_a1_c0 a1_c0_v hz_a1_c0 hI _ hc1) ?_)
  rintro e w ⟨rfl, hm4, hI⟩
  refine ⟨_, rfl, ?_⟩
  refine OpsT.keep [0, 1, 8, 9, 10] (S' := [(0, .slice A_a0 y3.length c_a0), (1, .func (.func 63) #[] #[.pointer (some ⟨b_a1_c0, 0, none⟩)]), (8, .slice A_a0 y3.length c_a0), (9, .func (.func 63) #[] #[.pointer (some ⟨b_a1_c0, 0, none⟩)]), (10, .int .i64 y2)]) (by simp only [hm4]; kernel_rfl) ?_
  refine OpsT.pures (r := []) [3] [0, 1, 5] (S' := [(0, .slice A_a0 y3.length c_a0), (1, .func (.func 63) #[] #[.pointer (some ⟨b_a1_c0, 0, none⟩)]), (5, .int .i64 y2)]) (by kernel_rfl) ?_
  refine OpsT.done ?_
  refine Qn.then ?_
  refine CodT.seq ?_
  refine CodT.seq ?_
  refine CodT.regionL [0, 1] (by kernel_rfl) ?_
  refine OpsT.pures (r := []) [0, 1] [0, 1, 5, 12] (S' := [(0, .slice A_a0 y3.length c_a0), (1, .func (.func 63) #[] #[.pointer (some ⟨b_a1_c0, 0, none⟩)]), (5, .int .i64 y2), (12, .bool (y2 == (-1)))]) (by kernel_rfl) ?_
  refine OpsT.done ?_
  refine Qn.then ?_
  by_cases hb5 : (y2 == (-1)) = true
  · rw [if_pos hb5] at h0
    refine CodT.yes' (b := y2 == (-1)) (by kernel_rfl) hb5 ?_
    refine CodT.seq ?_
    refine CodT.regionL [0, 1] (by kernel_rfl) ?_
    refine OpsT.pures (r := []) [0, 1] [4] (S' := [(4, .slice A_a0 y3.length c_a0)]) (by kernel_rfl) ?_
    refine OpsT.done ?_
    refine Qn.then ?_
    refine CodT.ret ?_
    refine Qn.ret_then ?_
    have e := someS h0
    subst e
    refine Qn.keep [4] (S' := [(4, .slice A_a0 y3.length c_a0)]) (by kernel_rfl) ?_
    exact post_ret (v := .slice A_a0 y3.length c_a0) (fun a ha => RunRes.run (vs := [.slice A_a0 y3.length c_a0]) (.tmp (t := 4) (by kernel_rfl) .nil) ha (by kernel_rfl)) ⟨A_a0, c_a0, rfl, hI⟩
  · rw [if_neg hb5] at h0
    refine CodT.no' (b := y2 == (-1)) (by kernel_rfl) (by simpa using hb5) ?_
    refine CodT.skip ?_
    refine Qn.then ?_
    refine CodT.seq ?_
    refine CodT.seq ?_
    refine CodT.regionL [0, 1, 2] (by kernel_rfl) ?_
    refine OpsT.pures (r := []) [0, 1, 2] [0, 1, 5, 6] (S' := [(0, .slice A_a0 y3.length c_a0), (1, .func (.func 63) #[] #[.pointer (some ⟨b_a1_c0, 0, none⟩)]), (5, .int .i64 y2), (6, .int .i64 (wi64 (y2 + 1)))]) (by kernel_rfl) ?_
    refine OpsT.done ?_
    refine Qn.then ?_
    obtain ⟨r1, h1, h0⟩ := bindS h0
    refine CodT.meet1 (fun a w => ∃ (x6 : (List RootEntry)) (x10 : Int), (x6, x10) = r1 ∧ Fr 42 [(0, .slice A_a0 x6.length c_a0), (5, .int .i64 x10)] a ∧ Inv w0 Z w (star (ownS 47 c_RootEntry 4 A_a0 c_a0 x6) A)) ?_ ?_
    ·
      refine CodT.block ?_
      refine (fun a ha => wp_loopN (fun k a w => ∃ (x11 : (List RootEntry)) (x15 : Int) (x16 : Int), slices_DeleteFunc_rootEntry__root_Drop_1.l0 a1_c0_v k x11 x15 x16 = some r1 ∧ Fr 42 [(0, .slice A_a0 x11.length c_a0), (1, .func (.func 63) #[] #[.pointer (some ⟨b_a1_c0, 0, none⟩)]), (5, .int .i64 x15), (6, .int .i64 x16)] a ∧ Inv w0 Z w (star (ownS 47 c_RootEntry 4 A_a0 c_a0 x11) A)) ?_ FU a w ⟨y3, y2, wi64 (y2 + 1), h1, ha.keep [0, 1, 5, 6] (by kernel_rfl), hI⟩)
      clear h1 hI
      rintro k a w ⟨x11, x15, x16, h1, ha, hI⟩
      rcases k with _ | k
      · cases h1
      simp only [slices_DeleteFunc_rootEntry__root_Drop_1.l0] at h1
      refine CodT.of ?_ ha
      refine CodT.seq ?_
      refine CodT.seq ?_
      refine CodT.regionL [0, 1, 2, 3] (by kernel_rfl) ?_
      refine OpsT.pures (r := []) [0, 1, 2, 3] [0, 1, 5, 6, 19] (S' := [(0, .slice A_a0 x11.length c_a0), (1, .func (.func 63) #[] #[.pointer (some ⟨b_a1_c0, 0, none⟩)]), (5, .int .i64 x15), (6, .int .i64 x16), (19, .bool (decide (x16 < (x11.length : Int))))]) (by kernel_rfl) ?_
      refine OpsT.done ?_
      refine Qn.then ?_
      by_cases hb17 : (decide (x16 < (x11.length : Int))) = true
      · rw [if_pos hb17] at h1
        refine CodT.yes' (b := decide (x16 < (x11.length : Int))) (by kernel_rfl) hb17 ?_
        refine CodT.skip ?_
        refine Qn.then ?_
        obtain ⟨r2, h2, h1⟩ := bindS h1
        refine CodT.meet (fun a w => ∃ (x18 : (List RootEntry)) (x22 : Int), (x18, x22) = r2 ∧ Fr 42 [(0, .slice A_a0 x18.length c_a0), (1, .func (.func 63) #[] #[.pointer (some ⟨b_a1_c0, 0, none⟩)]), (5, .int .i64 x22), (6, .int .i64 x16)] a ∧ Inv w0 Z w (star (ownS 47 c_RootEntry 4 A_a0 c_a0 x18) A)) ?_ ?_
        ·
          refine CodT.block ?_
          refine CodT.seq ?_
          refine CodT.regionL [0, 1, 2, 3, 4, 5] (by kernel_rfl) ?_
          refine OpsT.pures (r := [2, 3, 4, 5]) [0, 1] [0, 1, 5, 6, 22, 23] (S' := [(0, .slice A_a0 x11.length c_a0), (1, .func (.func 63) #[] #[.pointer (some ⟨b_a1_c0, 0, none⟩)]), (5, .int .i64 x15), (6, .int .i64 x16), (22, .slice A_a0 x11.length c_a0), (23, .int .i64 x16)]) (by kernel_rfl) ?_
          obtain ⟨hg23, h2⟩ := guardS h2
          obtain ⟨g24, hA25, hr26, hl27⟩ := ownS_get hI hg23.1 hg23.2
          refine OpsT.cons (Does.yi (Yl.indexSlice (d := 24) (T := 22) (cc := c_a0) (k := .i64) (j := x16) (g := g24) (o := 0) (by kernel_rfl) Go.Proofs.Try.underlying22 ty47 hA25 hg23.1 hg23.2) hI ?_)
          refine OpsT.cons (Does.yi (Yl.load (d := 25) (T := 47) (v := .agg (c_RootEntry (gt x11 x16)).toArray) (by kernel_rfl) (ldRN ty47 (cs := c_RootEntry (gt x11 x16)) 0 (fun w hC => hr26 w0 w _ hC) hl27 (whole _ _ hl27))) hI ?_)
          refine OpsT.cons (Does.allocL (d := 7) (T := 47) (c_RootEntry (RootEntry.mk 0 0 0 0)) (by kernel_rfl) ty47 hI (by kernel_rfl) ?_)
          intro b28 w hI
          refine OpsT.cons (Does.storeLit (T := 47) (b := b28) (o := 0) (v := .agg (c_RootEntry (gt x11 x16)).toArray) (l := c_RootEntry (RootEntry.mk 0 0 0 0)) (vs := c_RootEntry (gt x11 x16)) (L' := c_RootEntry (gt x11 x16)) (by kernel_rfl) ty47 hI (by kernel_rfl) (by kernel_rfl) (by kernel_rfl) (by kernel_rfl) (by kernel_rfl) ?_)
          intro w hI
          refine OpsT.done ?_
          refine Qn.then ?_
          refine CodT.seq ?_
          refine CodT.regionL [0, 1, 2, 3] (by kernel_rfl) ?_
          refine OpsT.pures (r := [1, 2, 3]) [0] [0, 1, 5, 6, 7, 26] (S' := [(0, .slice A_a0 x11.length c_a0), (1, .func (.func 63) #[] #[.pointer (some ⟨b_a1_c0, 0, none⟩)]), (5, .int .i64 x15), (6, .int .i64 x16), (7, .pointer (some ⟨b28, 0, none⟩)), (26, .func (.func 63) #[] #[.pointer (some ⟨b_a1_c0, 0, none⟩)])]) (by kernel_rfl) ?_
          refine OpsT.cons (Does.yi (Yl.load (d := 27) (T := 47) (v := .agg (c_RootEntry (gt x11 x16)).toArray) (by kernel_rfl) (ldBN ty47 (l := c_RootEntry (gt x11 x16)) (o := 0) (cs := c_RootEntry (gt x11 x16)) (ent_refl _) (by kernel_rfl) (whole _ _ (by kernel_rfl)))) hI ?_)
          obtain ⟨y30, hc29, h2⟩ := bindS h2
          try dsimp only at h2
          refine OpsT.cons (Does.call (d := some 28) (n := 63) (vs := [.agg (c_RootEntry (gt x11 x16)).toArray, .pointer (some ⟨b_a1_c0, 0, none⟩)]) (by kernel_rfl) en63 (c63 w0 w _ _ hI (gt x11 x16) b_a1_c0 a1_c0_v hz_a1_c0 _ hc29) ?_)
          rintro e w ⟨rfl, hI⟩
          refine ⟨_, rfl, ?_⟩
          refine OpsT.pures (r := []) [3] [0, 1, 5, 6, 7, 29] (S' := [(0, .slice A_a0 x11.length c_a0), (1, .func (.func 63) #[] #[.pointer (some ⟨b_a1_c0, 0, none⟩)]), (5, .int .i64 x15), (6, .int .i64 x16), (7, .pointer (some ⟨b28, 0, none⟩)), (29, .bool (!y30))]) (by kernel_rfl) ?_
          refine OpsT.done ?_
          refine Qn.then ?_
          by_cases hb31 : (!y30) = true
          · rw [if_pos hb31] at h2
            refine CodT.yes' (b := !y30) (by kernel_rfl) hb31 ?_
            refine CodT.seq ?_
            refine CodT.regionL [0, 1, 2, 3, 4] (by kernel_rfl) ?_
            refine OpsT.pures (r := [2, 3, 4]) [0, 1] [0, 1, 5, 6, 7, 30, 31] (S' := [(0, .slice A_a0 x11.length c_a0), (1, .func (.func 63) #[] #[.pointer (some ⟨b_a1_c0, 0, none⟩)]), (5, .int .i64 x15), (6, .int .i64 x16), (7, .pointer (some ⟨b28, 0, none⟩)), (30, .slice A_a0 x11.length c_a0), (31, .int .i64 x15)]) (by kernel_rfl) ?_
            refine OpsT.cons (Does.yi (Yl.load (d := 32) (T := 47) (v := .agg (c_RootEntry (gt x11 x16)).toArray) (by kernel_rfl) (ldBN ty47 (l := c_RootEntry (gt x11 x16)) (o := 0) (cs := c_RootEntry (gt x11 x16)) (ent_refl _) (by kernel_rfl) (whole _ _ (by kernel_rfl)))) hI ?_)
            obtain ⟨hg32, h2⟩ := guardS h2
            obtain ⟨g33, hA34, hr35, hl36⟩ := ownS_get (hI.mono (pick2 _ _ _)) hg32.1 hg32.2
            refine OpsT.cons (Does.yi (Yl.indexSlice (d := 33) (T := 22) (cc := c_a0) (k := .i64) (j := x15) (g := g33) (o := 0) (by kernel_rfl) Go.Proofs.Try.underlying22 ty47 hA34 hg32.1 hg32.2) hI ?_)
            have hI := hI.mono (pick2 _ _ _)
            refine OpsT.cons (Does.storeElem (T := 47) (j := x15) (k := 0) (v := .agg (c_RootEntry (gt x11 x16)).toArray) (vs := c_RootEntry (gt x11 x16)) (gt x11 x16) (by kernel_rfl) ty47 hA34 hI hg32.1 hg32.2 (by kernel_rfl) (by kernel_rfl) (by kernel_rfl) (by kernel_rfl) (by kernel_rfl) ?_)
            intro w hI
            refine OpsT.keep [0, 1, 5, 6, 7, 30, 31, 32] (S' := [(0, .slice A_a0 ((st x11 x15 (gt x11 x16)).length) c_a0), (1, .func (.func 63) #[] #[.pointer (some ⟨b_a1_c0, 0, none⟩)]), (5, .int .i64 x15), (6, .int .i64 x16), (7, .pointer (some ⟨b28, 0, none⟩)), (30, .slice A_a0 ((st x11 x15 (gt x11 x16)).length) c_a0), (31, .int .i64 x15), (32, .agg (c_RootEntry (gt x11 x16)).toArray)]) (by simp only [st_length]; kernel_rfl) ?_
            refine OpsT.done ?_
            refine Qn.then ?_
            refine CodT.regionL [0, 1, 2] (by kernel_rfl) ?_
            refine OpsT.pures (r := []) [0, 1, 2] [0, 1, 5, 6] (S' := [(0, .slice A_a0 ((st x11 x15 (gt x11 x16)).length) c_a0), (1, .func (.func 63) #[] #[.pointer (some ⟨b_a1_c0, 0, none⟩)]), (5, .int .i64 (wi64 (x15 + 1))), (6, .int .i64 x16)]) (by kernel_rfl) ?_
            refine OpsT.done ?_
            refine Qn.block_normal ?_
            have hI := hI.mono (pick2 _ _ _)
            have hI := hI.drop
            have e := someS h2
            subst e
            exact Qn.thenJ fun a ha => ⟨st x11 x15 (gt x11 x16), wi64 (x15 + 1), rfl, ha.keep [0, 1, 5, 6] (by kernel_rfl), hI⟩
          · rw [if_neg hb31] at h2
            refine CodT.no' (b := !y30) (by kernel_rfl) (by simpa using hb31) ?_
            refine CodT.skip ?_
            refine Qn.block_normal ?_
            have hI := hI.drop
            have e := someS h2
            subst e
            exact Qn.thenJ fun a ha => ⟨x11, x15, rfl, ha.keep [0, 1, 5, 6] (by kernel_rfl), hI⟩
        ·
          rintro a w ⟨x18, x22, rfl, ha, hI⟩
          try dsimp only at h1
          refine CodT.of ?_ ha
          refine CodT.regionL [0, 1, 2] (by kernel_rfl) ?_
          refine OpsT.pures (r := []) [0, 1, 2] [0, 1, 5, 6] (S' := [(0, .slice A_a0 x18.length c_a0), (1, .func (.func 63) #[] #[.pointer (some ⟨b_a1_c0, 0, none⟩)]), (5, .int .i64 x22), (6, .int .i64 (wi64 (x16 + 1)))]) (by kernel_rfl) ?_
          refine OpsT.done ?_
          exact Qn.thenJ fun a ha => ⟨k, Nat.lt_succ_self k, x18, x22, wi64 (x16 + 1), h1, ha.keep [0, 1, 5, 6] (by kernel_rfl), hI⟩
      · rw [if_neg hb17] at h1
        refine CodT.no' (b := decide (x16 < (x11.length : Int))) (by kernel_rfl) (by simpa using hb17) ?_
        refine CodT.exit ?_
        refine Qn.exit_then ?_
        refine Qn.exit_then ?_
        refine Qn.block ?_
        have e := someS h1
        subst e
        exact Qn.thenJ fun a ha => ⟨x11, x15, rfl, ha.keep [0, 5] (by kernel_rfl), hI⟩
    ·
      rintro a w ⟨x6, x10, rfl, ha, hI⟩
      try dsimp only at h0
      refine Qn.of ?_ ha
      refine Qn.then ?_
      refine CodT.seq ?_
      refine CodT.regionL [0, 1, 2, 3] (by kernel_rfl) ?_
      refine OpsT.pures (r := [2, 3]) [0, 1] [0, 5, 36, 37] (S' := [(0, .slice A_a0 x6.length c_a0), (5, .int .i64 x10), (36, .slice A_a0 x6.length c_a0), (37, .int .i64 x10)]) (by kernel_rfl) ?_
      obtain ⟨hg37, h0⟩ := guardS h0
      obtain ⟨A39, hA38⟩ : ∃ x, subA A_a0 c_a0 x10 4 = x := ⟨_, rfl⟩
      obtain ⟨m40, hm42⟩ : ∃ x, x = ((x6.length : Int)).toNat - (x10 : Int).toNat := ⟨_, rfl⟩
      refine OpsT.cons (Does.yi (Yl.sub (lo := (some (.int .i64 x10))) (hi := none) (d := 38) (T := 22) (a := x10) (b := (x6.length : Int)) (by kernel_rfl) Go.Proofs.Try.underlying22 ty47 (.inl ⟨_, rfl⟩) (.inr ⟨rfl, rfl⟩) hg37 (ownS_facts hI).1 (m := m40) hm42 hA38 rfl) hI ?_)
      refine OpsT.cons (Does.clearOwn (t := 22) (ty := 0) (c' := c_a0 - (x10 : Int).toNat) (ys := x6) (lo := x10) ((RootEntry.mk 0 0 0 0) : RootEntry) (by kernel_rfl) Go.Proofs.Try.underlying22 ty47 ⟨hg37.1, hg37.2.1⟩ rfl (by kernel_rfl) (by kernel_rfl) ⟨hA38, hm42⟩ hI ?_)
      intro w hI
      refine OpsT.keep [0, 5, 36, 37] (S' := [(0, .slice A_a0 ((clr ((RootEntry.mk 0 0 0 0)) x6 x10).length) c_a0), (5, .int .i64 x10), (36, .slice A_a0 ((clr ((RootEntry.mk 0 0 0 0)) x6 x10).length) c_a0), (37, .int .i64 x10)]) (by simp only [clr_len _ _ ⟨hg37.1, hg37.2.1⟩]; kernel_rfl) ?_
      refine OpsT.done ?_
      refine Qn.then ?_
      refine CodT.seq ?_
      refine CodT.regionL [0, 1, 2, 3] (by kernel_rfl) ?_
      refine OpsT.pures (r := [2, 3]) [0, 1] [39, 40] (S' := [(39, .slice A_a0 ((clr ((RootEntry.mk 0 0 0 0)) x6 x10).length) c_a0), (40, .int .i64 x10)]) (by kernel_rfl) ?_
      obtain ⟨hg43, h0⟩ := guardS h0
      have hA44 := ownS_sub0 hI
      have hl45 := sub_length (clr ((RootEntry.mk 0 0 0 0)) x6 x10) hg43
      refine OpsT.cons (Does.yi (Yl.sub (lo := none) (hi := (some (.int .i64 x10))) (d := 41) (T := 22) (a := 0) (b := x10) (by kernel_rfl) Go.Proofs.Try.underlying22 ty47 (.inr ⟨rfl, rfl⟩) (.inl ⟨_, rfl⟩) hg43 (ownS_facts hI).1 (m := (sub (clr ((RootEntry.mk 0 0 0 0)) x6 x10) 0 x10).length) (sub_length _ hg43) hA44 rfl) hI ?_)
      have hI := ownS_prefix hI hg43
      refine OpsT.pures (r := []) [3] [4] (S' := [(4, .slice A_a0 ((sub (clr ((RootEntry.mk 0 0 0 0)) x6 x10) 0 x10).length) c_a0)]) (by kernel_rfl) ?_
      refine OpsT.done ?_
      refine Qn.then ?_
      refine CodT.ret ?_
      have e := someS h0
      subst e
      refine Qn.keep [4] (S' := [(4, .slice A_a0 ((sub (clr ((RootEntry.mk 0 0 0 0)) x6 x10) 0 x10).length) c_a0)]) (by kernel_rfl) ?_
      exact post_ret (v := .slice A_a0 ((sub (clr ((RootEntry.mk 0 0 0 0)) x6 x10) 0 x10).length) c_a0) (fun a ha => RunRes.run (vs := [.slice A_a0 ((sub (clr ((RootEntry.mk 0 0 0 0)) x6 x10) 0 x10).length) c_a0]) (.tmp (t := 4) (by kernel_rfl) .nil) ha (by kernel_rfl)) ⟨A_a0, c_a0, rfl, hI⟩
set_option maxRecDepth 100000 in
set_option maxHeartbeats 4000000 in
/-- cenotaph/root.Drop -/
theorem c22 (w0 w : World) (Z : Hp) (A : HP) (hI : Inv w0 Z w A) (A_a0_Map : Option Addr) (c_a0_Map : Nat) (a0_Map : (List RootEntry)) (hr_a0_Map : RdS Z c_RootEntry 4 A_a0_Map c_a0_Map a0_Map) (A_a0_Gone : Option Addr) (c_a0_Gone : Nat) (a0_Gone : (List Int)) (hr_a0_Gone : RdS Z (cI .i64) 1 A_a0_Gone c_a0_Gone a0_Gone) (a1 : Int) (r : ((List RootEntry) × (List Int))) (h0 : root_Drop a0_Map a0_Gone a1 = some r) :
    Calls prog 22 #[.agg ((([.slice A_a0_Map a0_Map.length c_a0_Map, .slice A_a0_Gone a0_Gone.length c_a0_Gone] : List Value))).toArray, .int .i64 a1] w (fun e w' => ∃ (A1 : Option Addr) (c1 : Nat) (A2 : Option Addr) (c2 : Nat) (Z' : Hp), Z.le Z' ∧ e = .returned (.agg ((([.slice A1 r.1.length c1, .slice A2 r.2.length c2] : List Value))).toArray) ∧ RdS Z' (cI .i64) 1 A2 c2 r.2 ∧ Inv w0 Z' w' (star (ownS 47 c_RootEntry 4 A1 c1 r.1) A)) := by
  have e4 := calls_intro (R := (fun e w' => ∃ (A1 : Option Addr) (c1 : Nat) (A2 : Option Addr) (c2 : Nat) (Z' : Hp), Z.le Z' ∧ e = .returned (.agg ((([.slice A1 r.1.length c1, .slice A2 r.2.length c2] : List Value))).toArray) ∧ RdS Z' (cI .i64) 1 A2 c2 r.2 ∧ Inv w0 Z' w' (star (ownS 47 c_RootEntry 4 A1 c1 r.1) A))) (w := w) (args := [.agg ((([.slice A_a0_Map a0_Map.length c_a0_Map, .slice A_a0_Gone a0_Gone.length c_a0_Gone] : List Value))).toArray, .int .i64 a1]) (fn := Go.Proofs.Try.f22) 12 Go.Proofs.Try.func22 (by rfl) Go.Proofs.Try.ntmps22 (by kernel_rfl)
  refine e4 ?_
  clear e4
  unfold root_Drop at h0
  refine CodT.seq ?_
  refine CodT.regionL [0, 1, 2] (by kernel_rfl) ?_
  refine OpsT.cons (Does.boxL (d := 2) (T := 25) (v := .agg ((([.slice A_a0_Map a0_Map.length c_a0_Map, .slice A_a0_Gone a0_Gone.length c_a0_Gone] : List Value))).toArray) ((([.slice A_a0_Map a0_Map.length c_a0_Map, .slice A_a0_Gone a0_Gone.length c_a0_Gone] : List Value))) (by kernel_rfl) hI (by kernel_rfl) ?_)
  intro b1 w hI
  refine OpsT.cons (Does.boxL (d := 3) (T := 3) (v := .int .i64 a1) (([.int .i64 a1] : List Value)) (by kernel_rfl) hI (by kernel_rfl) ?_)
  intro b2 w hI
  refine OpsT.cons (Does.allocL (d := 4) (T := 25) ((([.slice none 0 0, .slice none 0 0] : List Value))) (by kernel_rfl) ty25 hI (by kernel_rfl) ?_)
  intro b3 w hI
  refine OpsT.done ?_
  refine Qn.then ?_
  refine CodT.seq ?_
  have hI := hI.mono (pick2 _ _ _)
  obtain ⟨Z4, hle5, hz6, hI⟩ := pt_freeze hI
  refine CodT.regionL [0, 1, 2, 3, 4, 5, 6] (by kernel_rfl) ?_
  refine OpsT.pures (r := [1, 2, 3, 4, 5, 6]) [0] [2, 3, 4, 5] (S' := [(2, .pointer (some ⟨b1, 0, none⟩)), (3, .pointer (some ⟨b2, 0, none⟩)), (4, .pointer (some ⟨b3, 0, none⟩)), (5, .pointer (some ⟨b1, 0, none⟩))]) (by kernel_rfl) ?_
  refine OpsT.cons (Does.yi (Yl.load (d := 6) (T := 22) (v := .slice A_a0_Map a0_Map.length c_a0_Map) (by kernel_rfl) (ldB ty22 (l := (([.slice A_a0_Map a0_Map.length c_a0_Map, .slice A_a0_Gone a0_Gone.length c_a0_Gone] : List Value))) (o := 0) (v := .slice A_a0_Map a0_Map.length c_a0_Map) (pick2 _ _ _) (by kernel_rfl))) hI ?_)
  obtain ⟨y8, hc7, h0⟩ := bindS h0
  try dsimp only at h0
  refine OpsT.cons (Does.call (d := some 7) (n := 62) (vs := [.slice A_a0_Map a0_Map.length c_a0_Map]) (by kernel_rfl) en62 (c62 w0 w _ _ hI A_a0_Map c_a0_Map a0_Map (hr_a0_Map.mono hle5) _ hc7) ?_)
  rintro e w ⟨A9, cp10, rfl, hI⟩
  refine ⟨_, rfl, ?_⟩
  refine OpsT.pures (r := [4, 5, 6]) [3] [2, 4, 7, 8] (S' := [(2, .pointer (some ⟨b1, 0, none⟩)), (4, .pointer (some ⟨b3, 0, none⟩)), (7, .slice A9 y8.length cp10), (8, .func (.func 63) #[] #[.pointer (some ⟨b2, 0, none⟩)])]) (by kernel_rfl) ?_
  obtain ⟨y12, hc11, h0⟩ := bindS h0
  try dsimp only at h0
  refine OpsT.cons (Does.call (d := some 9) (n := 61) (vs := [.slice A9 y8.length cp10, .func (.func 63) #[] #[.pointer (some ⟨b2, 0, none⟩)]]) (by kernel_rfl) en61 (c61_2 w0 w _ _ A9 cp10 y8 b2 a1 hz6 hI _ hc11) ?_)
  rintro e w ⟨A13, cp14, rfl, hI⟩
  refine ⟨_, rfl, ?_⟩
  refine OpsT.pures (r := [6]) [5] [2, 4, 9, 10] (S' := [(2, .pointer (some ⟨b1, 0, none⟩)), (4, .pointer (some ⟨b3, 0, none⟩)), (9, .slice A13 y12.length cp14), (10, .pointer (some ⟨b1, 0, none⟩))]) (by kernel_rfl) ?_
  have hI := hI.mono (pick3 _ _ _ _)
  refine OpsT.cons (Does.storeLit (T := 22) (b := b1) (o := 0) (v := .slice A13 y12.length cp14) (l := (([.slice A_a0_Map a0_Map.length c_a0_Map, .slice A_a0_Gone a0_Gone.length c_a0_Gone] : List Value))) (vs := ([.slice A13 y12.length cp14] : List Value)) (L' := (([.slice A13 y12.length cp14, .slice A_a0_Gone a0_Gone.length c_a0_Gone] : List Value))) (by kernel_rfl) ty22 hI (by kernel_rfl) (by kernel_rfl) (by kernel_rfl) (by kernel_rfl) (by kernel_rfl) ?_)
  intro w hI
  refine OpsT.done ?_
  refine Qn.then ?_
  refine CodT.seq ?_
  refine CodT.regionL [0, 1] (by kernel_rfl) ?_
  refine OpsT.cons (Does.yi (Yl.load (d := 11) (T := 25) (v := .agg ((([.slice A13 y12.length cp14, .slice A_a0_Gone a0_Gone.length c_a0_Gone] : List Value))).toArray) (by kernel_rfl) (ldBN ty25 (l := (([.slice A13 y12.length cp14, .slice A_a0_Gone a0_Gone.length c_a0_Gone] : List Value))) (o := 0) (cs := (([.slice A13 y12.length cp14, .slice A_a0_Gone a0_Gone.length c_a0_Gone] : List Value))) (ent_refl _) (by kernel_rfl) (whole _ _ (by kernel_rfl)))) hI ?_)
  have hI := hI.mono (pick3 _ _ _ _)
  refine OpsT.cons (Does.storeLit (T := 25) (b := b3) (o := 0) (v := .agg ((([.slice A13 y12.length cp14, .slice A_a0_Gone a0_Gone.length c_a0_Gone] : List Value))).toArray) (l := (([.slice none 0 0, .slice none 0 0] : List Value))) (vs := (([.slice A13 y12.length cp14, .slice A_a0_Gone a0_Gone.length c_a0_Gone] : List Value))) (L' := (([.slice A13 y12.length cp14, .slice A_a0_Gone a0_Gone.length c_a0_Gone] : List Value))) (by kernel_rfl) ty25 hI (by kernel_rfl) (by kernel_rfl) (by kernel_rfl) (by kernel_rfl) (by kernel_rfl) ?_)
  intro w hI
  refine OpsT.done ?_
  refine Qn.then ?_
  refine CodT.ret ?_
  have hL15 := (ldBN ty25 (l := (([.slice A13 y12.length cp14, .slice A_a0_Gone a0_Gone.length c_a0_Gone] : List Value))) (o := 0) (cs := (([.slice A13 y12.length cp14, .slice A_a0_Gone a0_Gone.length c_a0_Gone] : List Value))) (ent_refl _) (by kernel_rfl) (whole _ _ (by kernel_rfl))) w hI
  have hI := hI.drop
  have hI := hI.drop
  have e := someS h0
  subst e
  refine Qn.keep [4] (S' := [(4, .pointer (some ⟨b3, 0, none⟩))]) (by kernel_rfl) ?_
  exact post_ret (v := .agg ((([.slice A13 y12.length cp14, .slice A_a0_Gone a0_Gone.length c_a0_Gone] : List Value))).toArray) (fun a ha => RunRes.run (vs := [.agg ((([.slice A13 y12.length cp14, .slice A_a0_Gone a0_Gone.length c_a0_Gone] : List Value))).toArray]) (.cell (t := 4) (T := 25) (ad := ⟨b3, 0, none⟩) (by kernel_rfl) hL15 .nil) ha (by kernel_rfl)) ⟨A13, cp14, A_a0_Gone, c_a0_Gone, Z4, hle5, rfl, (hr_a0_Gone.mono hle5), hI⟩
set_option maxRecDepth 100000 in
set_option maxHeartbeats 4000000 in
/-- cenotaph/root.put[int]$1 -/
theorem c86 (w0 w : World) (Z : Hp) (A : HP) (hI : Inv w0 Z w A) (a0 : Int) (b_a1 : Nat) (hz_a1 : Z b_a1 = some (.cells (([.func (.func 44) #[] #[]] : List Value)).toArray 79 (0, 0))) (b_a2 : Nat) (a2_v : Int) (hz_a2 : Z b_a2 = some (.cells (([.int .i64 a2_v] : List Value)).toArray 3 (0, 0))) (r : Bool) (h0 : root_put_int_1 a0 a2_v = some r) :
    Calls prog 86 #[.int .i64 a0, .pointer (some ⟨b_a1, 0, none⟩), .pointer (some ⟨b_a2, 0, none⟩)] w (fun e w' => e = .returned (.bool r) ∧ Inv w0 Z w' A) := by
  have e4 := calls_intro (R := (fun e w' => e = .returned (.bool r) ∧ Inv w0 Z w' A)) (w := w) (args := [.int .i64 a0, .pointer (some ⟨b_a1, 0, none⟩), .pointer (some ⟨b_a2, 0, none⟩)]) (fn := Go.Proofs.Try.f86) 11 Go.Proofs.Try.func86 (by rfl) Go.Proofs.Try.ntmps86 (by kernel_rfl)
  refine e4 ?_
  clear e4
  unfold root_put_int_1 at h0
  refine CodT.seq ?_
  refine CodT.regionL [0] (by kernel_rfl) ?_
  refine OpsT.pures (r := []) [0] [0, 1, 2] (S' := [(0, .int .i64 a0), (1, .pointer (some ⟨b_a1, 0, none⟩)), (2, .pointer (some ⟨b_a2, 0, none⟩))]) (by kernel_rfl) ?_
  refine OpsT.done ?_
  refine Qn.then ?_
  refine CodT.seq ?_
  refine CodT.drawI (n := 7) [] (by kernel_rfl) (by kernel_rfl) hI ?_
  intro w hI
  refine GmT.p' 1 6 (.int .i64 a0) (by kernel_rfl) (by kernel_rfl) ?_
  refine GmT.r (i := 0) 2 (by kernel_rfl) (by kernel_rfl) (Yl.load (d := 5) (T := 79) (v := .func (.func 44) #[] #[]) (by kernel_rfl) (ldZ ty79 (l := ([.func (.func 44) #[] #[]] : List Value)) (o := 0) (v := .func (.func 44) #[] #[]) hz_a1 (by kernel_rfl))) hI ?_
  refine GmT.r (i := 3) 2 (by kernel_rfl) (by kernel_rfl) (Yl.load (d := 8) (T := 3) (v := .int .i64 a2_v) (by kernel_rfl) (ldZ ty3 (l := ([.int .i64 a2_v] : List Value)) (o := 0) (v := .int .i64 a2_v) hz_a2 (by kernel_rfl))) hI ?_
  obtain ⟨y2, hc1, h0⟩ := bindS h0
  try dsimp only at h0
  refine GmT.o (i := 2) (by kernel_rfl) (Does.call (d := some 7) (n := 44) (vs := [.int .i64 a0]) (by kernel_rfl) en44 (c44 w0 w _ _ hI a0 _ hc1) ?_)
  rintro e w ⟨rfl, hI⟩
  refine ⟨_, rfl, ?_⟩
  refine ⟨fun _ _ => hI, ?_⟩
  obtain ⟨y4, hc3, h0⟩ := bindS h0
  try dsimp only at h0
  refine GmT.o (i := 4) (by kernel_rfl) (Does.call (d := some 9) (n := 84) (vs := [.int .i64 y2, .int .i64 a2_v]) (by kernel_rfl) en84 (c84 w0 w _ _ hI y2 a2_v _ hc3) ?_)
  rintro e w ⟨rfl, hI⟩
  refine ⟨_, rfl, ?_⟩
  refine ⟨fun _ _ => hI, ?_⟩
  refine GmT.p' 5 10 (.bool (decide (y4 ≥ 0))) (by kernel_rfl) (by kernel_rfl) ?_
  refine GmT.p' 6 4 (.bool (decide (y4 ≥ 0))) (by kernel_rfl) (by kernel_rfl) ?_
  refine GmT.done (by kernel_rfl) ?_
  refine Qn.then ?_
  refine CodT.ret ?_
  have e := someS h0
  subst e
  refine Qn.keep [4] (S' := [(4, .bool (decide (y4 ≥ 0)))]) (by kernel_rfl) ?_
  exact post_ret (v := .bool (decide (y4 ≥ 0))) (fun a ha => RunRes.run (vs := [.bool (decide (y4 ≥ 0))]) (.tmp (t := 4) (by kernel_rfl) .nil) ha (by kernel_rfl)) ⟨rfl, hI⟩
set_option maxRecDepth 100000 in
set_option maxHeartbeats 4000000 in
/-- slices.IndexFunc[[]int,int] -/
theorem c77_2 (w0 w : World) (Z : Hp) (A : HP) (hI : Inv w0 Z w A) (A_a0 : Option Addr) (c_a0 : Nat) (a0 : (List Int)) (hr_a0 : RdS Z (cI .i64) 1 A_a0 c_a0 a0) (b_a1_c0 : Nat) (hz_a1_c0 : Z b_a1_c0 = some (.cells (([.func (.func 44) #[] #[]] : List Value)).toArray 79 (0, 0))) (b_a1_c1 : Nat) (a1_c1_v : Int) (hz_a1_c1 : Z b_a1_c1 = some (.cells (([.int .i64 a1_c1_v] : List Value)).toArray 3 (0, 0))) (r : Int) (h0 : slices_IndexFunc_int__root_put_int_1 a0 a1_c1_v = some r) :
    Calls prog 77 #[.slice A_a0 a0.length c_a0, .func (.func 86) #[] #[.pointer (some ⟨b_a1_c0, 0, none⟩), .pointer (some ⟨b_a1_c1, 0, none⟩)]] w (fun e w' => e = .returned (.int .i64 r) ∧ Inv w0 Z w' A) := by
  have e4 := calls_intro (R := (fun e w' => e = .returned (.int .i64 r) ∧ Inv w0 Z w' A)) (w := w) (args := [.slice A_a0 a0.length c_a0, .func (.func 86) #[] #[.pointer (some ⟨b_a1_c0, 0, none⟩), .pointer (some ⟨b_a1_c1, 0, none⟩)]]) (fn := Go.Proofs.Try.f77) 19 Go.Proofs.Try.func77 (by rfl) Go.Proofs.Try.ntmps77 (by kernel_rfl)
  refine e4 ?_
  clear e4
  unfold slices_IndexFunc_int__root_put_int_1 at h0
  refine CodT.seq ?_
  refine CodT.regionL [0] (by kernel_rfl) ?_
  refine OpsT.pures (r := []) [0] [0, 1] (S' := [(0, .slice A_a0 a0.length c_a0), (1, .func (.func 86) #[] #[.pointer (some ⟨b_a1_c0, 0, none⟩), .pointer (some ⟨b_a1_c1, 0, none⟩)])]) (by kernel_rfl) ?_
  refine OpsT.done ?_
  refine Qn.then ?_
  refine CodT.seq ?_
  refine CodT.seq ?_
  refine CodT.regionL [0, 1, 2] (by kernel_rfl) ?_
  refine OpsT.pures (r := []) [0, 1, 2] [0, 1, 7, 8] (S' := [(0, .slice A_a0 a0.length c_a0), (1, .func (.func 86) #[] #[.pointer (some ⟨b_a1_c0, 0, none⟩), .pointer (some ⟨b_a1_c1, 0, none⟩)]), (7, .int .i64 (a0.length : Int)), (8, .int .i64 0)]) (by kernel_rfl) ?_
  refine OpsT.done ?_
  refine Qn.then ?_
  obtain ⟨r1, h1, h0⟩ := bindS h0
  refine CodT.meet1 (fun a w => .inr () = r1 ∧ Fr 19 [] a ∧ Inv w0 Z w A) ?_ ?_
  ·
    refine CodT.block ?_
    refine (fun a ha => wp_loopN (fun k a w => ∃ (x1 : Int), slices_IndexFunc_int__root_put_int_1.l0 a0 a1_c1_v k x1 = some r1 ∧ Fr 19 [(0, .slice A_a0 a0.length c_a0), (1, .func (.func 86) #[] #[.pointer (some ⟨b_a1_c0, 0, none⟩), .pointer (some ⟨b_a1_c1, 0, none⟩)]), (7, .int .i64 (a0.length : Int)), (8, .int .i64 x1)] a ∧ Inv w0 Z w A) ?_ FU a w ⟨0, h1, ha.keep [0, 1, 7, 8] (by kernel_rfl), hI⟩)
    clear h1 hI
    rintro k a w ⟨x1, h1, ha, hI⟩
    rcases k with _ | k
    · cases h1
    simp only [slices_IndexFunc_int__root_put_int_1.l0] at h1
    refine CodT.of ?_ ha
    refine CodT.seq ?_
    refine CodT.regionL [0] (by kernel_rfl) ?_
    refine OpsT.pures (r := []) [0] [0, 1, 7, 8, 9] (S' := [(0, .slice A_a0 a0.length c_a0), (1, .func (.func 86) #[] #[.pointer (some ⟨b_a1_c0, 0, none⟩), .pointer (some ⟨b_a1_c1, 0, none⟩)]), (7, .int .i64 (a0.length : Int)), (8, .int .i64 x1), (9, .bool (decide (x1 < (a0.length : Int))))]) (by kernel_rfl) ?_
    refine OpsT.done ?_
    refine Qn.then ?_
    refine CodT.seq ?_
    by_cases hb2 : (decide (x1 < (a0.length : Int))) = true
    · rw [if_pos hb2] at h1
      refine CodT.yes' (b := decide (x1 < (a0.length : Int))) (by kernel_rfl) hb2 ?_
      refine CodT.skip ?_
      refine Qn.then ?_
      refine CodT.seq ?_
      refine CodT.block ?_
      refine CodT.seq ?_
      refine CodT.regionL [0, 1] (by kernel_rfl) ?_
      refine OpsT.pures (r := []) [0, 1] [0, 1, 5, 7, 8] (S' := [(0, .slice A_a0 a0.length c_a0), (1, .func (.func 86) #[] #[.pointer (some ⟨b_a1_c0, 0, none⟩), .pointer (some ⟨b_a1_c1, 0, none⟩)]), (5, .int .i64 x1), (7, .int .i64 (a0.length : Int)), (8, .int .i64 x1)]) (by kernel_rfl) ?_
      refine OpsT.done ?_
      refine Qn.then ?_
      refine CodT.seq ?_
      refine CodT.regionL [0, 1, 2, 3, 4, 5] (by kernel_rfl) ?_
      refine OpsT.pures (r := [3, 4, 5]) [0, 1, 2] [0, 1, 5, 7, 8, 11, 12, 13] (S' := [(0, .slice A_a0 a0.length c_a0), (1, .func (.func 86) #[] #[.pointer (some ⟨b_a1_c0, 0, none⟩), .pointer (some ⟨b_a1_c1, 0, none⟩)]), (5, .int .i64 x1), (7, .int .i64 (a0.length : Int)), (8, .int .i64 x1), (11, .func (.func 86) #[] #[.pointer (some ⟨b_a1_c0, 0, none⟩), .pointer (some ⟨b_a1_c1, 0, none⟩)]), (12, .slice A_a0 a0.length c_a0), (13, .int .i64 x1)]) (by kernel_rfl) ?_
      obtain ⟨hg3, h1⟩ := guardS h1
      obtain ⟨g4, o8, hA5, hr6, hl7⟩ := RdS.get hr_a0 hg3.1 hg3.2
      refine OpsT.cons (Does.yi (Yl.indexSlice (d := 14) (T := 23) (cc := c_a0) (k := .i64) (j := x1) (g := g4) (o := o8) (by kernel_rfl) Go.Proofs.Try.underlying23 ty3 hA5 hg3.1 hg3.2) hI ?_)
      refine OpsT.cons (Does.yi (Yl.load (d := 15) (T := 3) (v := .int .i64 (gt a0 x1)) (by kernel_rfl) (ldR ty3 (v := .int .i64 (gt a0 x1)) 0 (fun w hC => hr6 w0 w _ hC) (by kernel_rfl))) hI ?_)
      obtain ⟨y10, hc9, h1⟩ := bindS h1
      try dsimp only at h1
      refine OpsT.cons (Does.call (d := some 16) (n := 86) (vs := [.int .i64 (gt a0 x1), .pointer (some ⟨b_a1_c0, 0, none⟩), .pointer (some ⟨b_a1_c1, 0, none⟩)]) (by kernel_rfl) en86 (c86 w0 w _ _ hI (gt a0 x1) b_a1_c0 hz_a1_c0 b_a1_c1 a1_c1_v hz_a1_c1 _ hc9) ?_)
      rintro e w ⟨rfl, hI⟩
      refine ⟨_, rfl, ?_⟩
      refine OpsT.done ?_
      refine Qn.then ?_
      by_cases hb11 : y10 = true
      · rw [if_pos hb11] at h1
        refine CodT.yes' (b := y10) (by kernel_rfl) hb11 ?_
        refine CodT.seq ?_
        refine CodT.regionL [0, 1] (by kernel_rfl) ?_
        refine OpsT.pures (r := []) [0, 1] [4] (S' := [(4, .int .i64 x1)]) (by kernel_rfl) ?_
        refine OpsT.done ?_
        refine Qn.then ?_
        refine CodT.ret ?_
        refine Qn.block_ret ?_
        refine Qn.ret_then ?_
        refine Qn.ret_then ?_
        refine Qn.block_ret ?_
        refine Qn.ret_then ?_
        refine Qn.ret_then ?_
        have e := someS h1
        subst e
        try dsimp only at h0
        have e := someS h0
        subst e
        refine Qn.keep [4] (S' := [(4, .int .i64 x1)]) (by kernel_rfl) ?_
        exact post_ret (v := .int .i64 x1) (fun a ha => RunRes.run (vs := [.int .i64 x1]) (.tmp (t := 4) (by kernel_rfl) .nil) ha (by kernel_rfl)) ⟨rfl, hI⟩
      · rw [if_neg hb11] at h1
        refine CodT.no' (b := y10) (by kernel_rfl) (by simpa using hb11) ?_
        refine CodT.skip ?_
        refine Qn.block_normal ?_
        refine Qn.then ?_
        refine CodT.regionL [0, 1] (by kernel_rfl) ?_
        refine OpsT.pures (r := []) [0, 1] [0, 1, 7, 8] (S' := [(0, .slice A_a0 a0.length c_a0), (1, .func (.func 86) #[] #[.pointer (some ⟨b_a1_c0, 0, none⟩), .pointer (some ⟨b_a1_c1, 0, none⟩)]), (7, .int .i64 (a0.length : Int)), (8, .int .i64 (wi64 (x1 + 1)))]) (by kernel_rfl) ?_
        refine OpsT.done ?_
        exact Qn.thenJ fun a ha => ⟨k, Nat.lt_succ_self k, wi64 (x1 + 1), h1, ha.keep [0, 1, 7, 8] (by kernel_rfl), hI⟩
    · rw [if_neg hb2] at h1
      refine CodT.no' (b := decide (x1 < (a0.length : Int))) (by kernel_rfl) (by simpa using hb2) ?_
      refine CodT.exit ?_
      refine Qn.exit_then ?_
      refine Qn.exit_then ?_
      refine Qn.block ?_
      have e := someS h1
      subst e
      exact Qn.thenJ fun a ha => ⟨rfl, ha.keep [] (by kernel_rfl), hI⟩
  ·
    rintro a w ⟨rfl, ha, hI⟩
    try dsimp only at h0
    refine Qn.of ?_ ha
    refine Qn.then ?_
    refine CodT.seq ?_
    refine CodT.regionL [0] (by kernel_rfl) ?_
    refine OpsT.pures (r := []) [0] [4] (S' := [(4, .int .i64 (-1))]) (by kernel_rfl) ?_
    refine OpsT.done ?_
    refine Qn.then ?_
    refine CodT.ret ?_
    have e := someS h0
    subst e
    refine Qn.keep [4] (S' := [(4, .int .i64 (-1))]) (by kernel_rfl) ?_
    exact post_ret (v := .int .i64 (-1)) (fun a ha => RunRes.run (vs := [.int .i64 (-1)]) (.tmp (t := 4) (by kernel_rfl) .nil) ha (by kernel_rfl)) ⟨rfl, hI⟩
set_option maxRecDepth 100000 in
set_option maxHeartbeats 4000000 in
/-- slices.Clone[[]int,int] -/
theorem c89 (w0 w : World) (Z : Hp) (A : HP) (hI : Inv w0 Z w A) (A_a0 : Option Addr) (c_a0 : Nat) (a0 : (List Int)) (hr_a0 : RdS Z (cI .i64) 1 A_a0 c_a0 a0) (r : (List Int)) (h0 : slices_Clone_int a0 = some r) :
    Calls prog 89 #[.slice A_a0 a0.length c_a0] w (fun e w' => ∃ (A1 : Option Addr) (c1 : Nat), e = .returned (.slice A1 r.length c1) ∧ Inv w0 Z w' (star (ownS 3 (cI .i64) 1 A1 c1 r) A)) := by
  have e4 := calls_intro (R := (fun e w' => ∃ (A1 : Option Addr) (c1 : Nat), e = .returned (.slice A1 r.length c1) ∧ Inv w0 Z w' (star (ownS 3 (cI .i64) 1 A1 c1 r) A))) (w := w) (args := [.slice A_a0 a0.length c_a0]) (fn := Go.Proofs.Try.f89) 8 Go.Proofs.Try.func89 (by rfl) Go.Proofs.Try.ntmps89 (by kernel_rfl)
  refine e4 ?_
  clear e4
  unfold slices_Clone_int at h0
  refine CodT.seq ?_
  refine CodT.regionL [0] (by kernel_rfl) ?_
  refine OpsT.pures (r := []) [0] [0] (S' := [(0, .slice A_a0 a0.length c_a0)]) (by kernel_rfl) ?_
  refine OpsT.done ?_
  refine Qn.then ?_
  refine CodT.seq ?_
  refine CodT.seq ?_
  refine CodT.regionL [0, 1] (by kernel_rfl) ?_
  refine OpsT.pures (r := [1]) [0] [0, 3] (S' := [(0, .slice A_a0 a0.length c_a0), (3, .slice A_a0 a0.length c_a0)]) (by kernel_rfl) ?_
  rcases A_a0 with _ | ad1
  rotate_left
  ·
    refine OpsT.cons (Does.yi (Yl.eqlNilF (d := 4) (T := 23) (n := a0.length) (c := c_a0) (ad := ad1) (by kernel_rfl) Go.Proofs.Try.underlying23 (by kernel_rfl)) hI ?_)
    refine OpsT.done ?_
    refine Qn.then ?_
    refine CodT.no (by kernel_rfl) ?_
    refine CodT.skip ?_
    refine Qn.then ?_
    refine CodT.seq ?_
    refine CodT.regionL [0, 1, 2, 3] (by kernel_rfl) ?_
    refine OpsT.cons (Does.buildSlice0 (en := (cI .i64)) (d := 5) (T := 23) (by kernel_rfl) Go.Proofs.Try.underlying23 ty3 hI ?_)
    intro b2 w hI
    refine OpsT.pures (r := [2, 3]) [1] [5, 6] (S' := [(5, .slice (some ⟨b2, 0, none⟩) (([] : List Int).length) 0), (6, .slice (some ad1) a0.length c_a0)]) (by kernel_rfl) ?_
    obtain ⟨hg3, h0⟩ := guardS h0
    refine OpsT.cons (Does.append (d := 7) (t := 23) (tx := 23) (ty := 23) (ys := ([] : List Int)) (zs := a0) (x := .slice (some ad1) a0.length c_a0) (by kernel_rfl) Go.Proofs.Try.underlying23 ty3 (by kernel_rfl) hI (src_rd Go.Proofs.Try.underlying23 hI hr_a0 (one_flat _ (fun _ => rfl))) hr_a0.2.2.1 (by unfold LIM at hg3; omega) hg3 ?_)
    intro A4 cp5 w hI
    refine OpsT.pures (r := []) [3] [2] (S' := [(2, .slice A4 ((([] : List Int) ++ a0).length) cp5)]) (by kernel_rfl) ?_
    refine OpsT.done ?_
    refine Qn.then ?_
    refine CodT.ret ?_
    have e := someS h0
    subst e
    refine Qn.keep [2] (S' := [(2, .slice A4 ((([] : List Int) ++ a0).length) cp5)]) (by kernel_rfl) ?_
    exact post_ret (v := .slice A4 ((([] : List Int) ++ a0).length) cp5) (fun a ha => RunRes.run (vs := [.slice A4 ((([] : List Int) ++ a0).length) cp5]) (.tmp (t := 2) (by kernel_rfl) .nil) ha (by kernel_rfl)) ⟨A4, cp5, rfl, hI⟩
  ·
    have hy6 := RdS.of_none hr_a0
    subst hy6
    replace h0 : some ([] : List Int) = some r := by simpa [LIM] using h0
    refine OpsT.cons (Does.yi (Yl.eqlNilT (d := 4) (T := 23) (n := ([] : List Int).length) (c := c_a0) (by kernel_rfl) Go.Proofs.Try.underlying23 (by kernel_rfl)) hI ?_)
    refine OpsT.done ?_
    refine Qn.then ?_
    refine CodT.yes (by kernel_rfl) ?_
    refine CodT.seq ?_
    refine CodT.regionL [0] (by kernel_rfl) ?_
    refine OpsT.pures (r := []) [0] [2] (S' := [(2, .slice none 0 0)]) (by kernel_rfl) ?_
    refine OpsT.done ?_
    refine Qn.then ?_
    refine CodT.ret ?_
    refine Qn.ret_then ?_
    have hI := ownS_nil (α := Int) hI 3 (cI .i64) 1
    have e := someS h0
    subst e
    refine Qn.keep [2] (S' := [(2, .slice none 0 0)]) (by kernel_rfl) ?_
    exact post_ret (v := .slice none 0 0) (fun a ha => RunRes.run (vs := [.slice none 0 0]) (.tmp (t := 2) (by kernel_rfl) .nil) ha (by kernel_rfl)) ⟨none, 0, rfl, hI⟩
set_option maxRecDepth 100000 in
set_option maxHeartbeats 4000000 in
/-- cenotaph/root.put[int]$2 -/
theorem c87 (w0 w : World) (Z : Hp) (A : HP) (hI : Inv w0 Z w A) (a0 : Int) (b_a1 : Nat) (hz_a1 : Z b_a1 = some (.cells (([.func (.func 44) #[] #[]] : List Value)).toArray 79 (0, 0))) (b_a2 : Nat) (a2_v : Int) (hz_a2 : Z b_a2 = some (.cells (([.int .i64 a2_v] : List Value)).toArray 3 (0, 0))) (r : Bool) (h0 : root_put_int_2 a0 a2_v = some r) :
    Calls prog 87 #[.int .i64 a0, .pointer (some ⟨b_a1, 0, none⟩), .pointer (some ⟨b_a2, 0, none⟩)] w (fun e w' => e = .returned (.bool r) ∧ Inv w0 Z w' A) := by
  have e4 := calls_intro (R := (fun e w' => e = .returned (.bool r) ∧ Inv w0 Z w' A)) (w := w) (args := [.int .i64 a0, .pointer (some ⟨b_a1, 0, none⟩), .pointer (some ⟨b_a2, 0, none⟩)]) (fn := Go.Proofs.Try.f87) 10 Go.Proofs.Try.func87 (by rfl) Go.Proofs.Try.ntmps87 (by kernel_rfl)
  refine e4 ?_
  clear e4
  unfold root_put_int_2 at h0
  refine CodT.seq ?_
  refine CodT.regionL [0] (by kernel_rfl) ?_
  refine OpsT.pures (r := []) [0] [0, 1, 2] (S' := [(0, .int .i64 a0), (1, .pointer (some ⟨b_a1, 0, none⟩)), (2, .pointer (some ⟨b_a2, 0, none⟩))]) (by kernel_rfl) ?_
  refine OpsT.done ?_
  refine Qn.then ?_
  refine CodT.seq ?_
  refine CodT.drawI (n := 6) [] (by kernel_rfl) (by kernel_rfl) hI ?_
  intro w hI
  refine GmT.p' 1 6 (.int .i64 a0) (by kernel_rfl) (by kernel_rfl) ?_
  refine GmT.r (i := 0) 2 (by kernel_rfl) (by kernel_rfl) (Yl.load (d := 5) (T := 79) (v := .func (.func 44) #[] #[]) (by kernel_rfl) (ldZ ty79 (l := ([.func (.func 44) #[] #[]] : List Value)) (o := 0) (v := .func (.func 44) #[] #[]) hz_a1 (by kernel_rfl))) hI ?_
  refine GmT.r (i := 3) 2 (by kernel_rfl) (by kernel_rfl) (Yl.load (d := 8) (T := 3) (v := .int .i64 a2_v) (by kernel_rfl) (ldZ ty3 (l := ([.int .i64 a2_v] : List Value)) (o := 0) (v := .int .i64 a2_v) hz_a2 (by kernel_rfl))) hI ?_
  obtain ⟨y2, hc1, h0⟩ := bindS h0
  try dsimp only at h0
  refine GmT.o (i := 2) (by kernel_rfl) (Does.call (d := some 7) (n := 44) (vs := [.int .i64 a0]) (by kernel_rfl) en44 (c44 w0 w _ _ hI a0 _ hc1) ?_)
  rintro e w ⟨rfl, hI⟩
  refine ⟨_, rfl, ?_⟩
  refine ⟨fun _ _ => hI, ?_⟩
  refine GmT.p' 4 9 (.bool (y2 == a2_v)) (by kernel_rfl) (by kernel_rfl) ?_
  refine GmT.p' 5 4 (.bool (y2 == a2_v)) (by kernel_rfl) (by kernel_rfl) ?_
  refine GmT.done (by kernel_rfl) ?_
  refine Qn.then ?_
  refine CodT.ret ?_
  have e := someS h0
  subst e
  refine Qn.keep [4] (S' := [(4, .bool (y2 == a2_v))]) (by kernel_rfl) ?_
  exact post_ret (v := .bool (y2 == a2_v)) (fun a ha => RunRes.run (vs := [.bool (y2 == a2_v)]) (.tmp (t := 4) (by kernel_rfl) .nil) ha (by kernel_rfl)) ⟨rfl, hI⟩
set_option maxRecDepth 100000 in
set_option maxHeartbeats 4000000 in
/-- slices.IndexFunc[[]int,int] -/
theorem c77_3 (w0 w : World) (Z : Hp) (A : HP) (hI : Inv w0 Z w A) (A_a0 : Option Addr) (c_a0 : Nat) (a0 : (List Int)) (hr_a0 : RdS Z (cI .i64) 1 A_a0 c_a0 a0) (b_a1_c0 : Nat) (hz_a1_c0 : Z b_a1_c0 = some (.cells (([.func (.func 44) #[] #[]] : List Value)).toArray 79 (0, 0))) (b_a1_c1 : Nat) (a1_c1_v : Int) (hz_a1_c1 : Z b_a1_c1 = some (.cells (([.int .i64 a1_c1_v] : List Value)).toArray 3 (0, 0))) (r : Int) (h0 : slices_IndexFunc_int__root_put_int_2 a0 a1_c1_v = some r) :
    Calls prog 77 #[.slice A_a0 a0.length c_a0, .func (.func 87) #[] #[.pointer (some ⟨b_a1_c0, 0, none⟩), .pointer (some ⟨b_a1_c1, 0, none⟩)]] w (fun e w' => e = .returned (.int .i64 r) ∧ Inv w0 Z w' A) := by
  have e4 := calls_intro (R := (fun e w' => e = .returned (.int .i64 r) ∧ Inv w0 Z w' A)) (w := w) (args := [.slice A_a0 a0.length c_a0, .func (.func 87) #[] #[.pointer (some ⟨b_a1_c0, 0, none⟩), .pointer (some ⟨b_a1_c1, 0, none⟩)]]) (fn := Go.Proofs.Try.f77) 19 Go.Proofs.Try.func77 (by rfl) Go.Proofs.Try.ntmps77 (by kernel_rfl)
  refine e4 ?_
  clear e4
  unfold slices_IndexFunc_int__root_put_int_2 at h0
  refine CodT.seq ?_
  refine CodT.regionL [0] (by kernel_rfl) ?_
  refine OpsT.pures (r := []) [0] [0, 1] (S' := [(0, .slice A_a0 a0.length c_a0), (1, .func (.func 87) #[] #[.pointer (some ⟨b_a1_c0, 0, none⟩), .pointer (some ⟨b_a1_c1, 0, none⟩)])]) (by kernel_rfl) ?_
  refine OpsT.done ?_
  refine Qn.then ?_
  refine CodT.seq ?_
  refine CodT.seq ?_
  refine CodT.regionL [0, 1, 2] (by kernel_rfl) ?_
  refine OpsT.pures (r := []) [0, 1, 2] [0, 1, 7, 8] (S' := [(0, .slice A_a0 a0.length c_a0), (1, .func (.func 87) #[] #[.pointer (some ⟨b_a1_c0, 0, none⟩), .pointer (some ⟨b_a1_c1, 0, none⟩)]), (7, .int .i64 (a0.length : Int)), (8, .int .i64 0)]) (by kernel_rfl) ?_
  refine OpsT.done ?_
  refine Qn.then ?_
  obtain ⟨r1, h1, h0⟩ := bindS h0
  refine CodT.meet1 (fun a w => .inr () = r1 ∧ Fr 19 [] a ∧ Inv w0 Z w A) ?_ ?_
  ·
    refine CodT.block ?_
    refine (fun a ha => wp_loopN (fun k a w => ∃ (x1 : Int), slices_IndexFunc_int__root_put_int_2.l0 a0 a1_c1_v k x1 = some r1 ∧ Fr 19 [(0, .slice A_a0 a0.length c_a0), (1, .func (.func 87) #[] #[.pointer (some ⟨b_a1_c0, 0, none⟩), .pointer (some ⟨b_a1_c1, 0, none⟩)]), (7, .int .i64 (a0.length : Int)), (8, .int .i64 x1)] a ∧ Inv w0 Z w A) ?_ FU a w ⟨0, h1, ha.keep [0, 1, 7, 8] (by kernel_rfl), hI⟩)
    clear h1 hI
    rintro k a w ⟨x1, h1, ha, hI⟩
    rcases k with _ | k
    · cases h1
    simp only [slices_IndexFunc_int__root_put_int_2.l0] at h1
    refine CodT.of ?_ ha
    refine CodT.seq ?_
    refine CodT.regionL [0] (by kernel_rfl) ?_
    refine OpsT.pures (r := []) [0] [0, 1, 7, 8, 9] (S' := [(0, .slice A_a0 a0.length c_a0), (1, .func (.func 87) #[] #[.pointer (some ⟨b_a1_c0, 0, none⟩), .pointer (some ⟨b_a1_c1, 0, none⟩)]), (7, .int .i64 (a0.length : Int)), (8, .int .i64 x1), (9, .bool (decide (x1 < (a0.length : Int))))]) (by kernel_rfl) ?_
    refine OpsT.done ?_
    refine Qn.then ?_
    refine CodT.seq ?_
    by_cases hb2 : (decide (x1 < (a0.length : Int))) = true
    · rw [if_pos hb2] at h1
      refine CodT.yes' (b := decide (x1 < (a0.length : Int))) (by kernel_rfl) hb2 ?_
      refine CodT.skip ?_
      refine Qn.then ?_
      refine CodT.seq ?_
      refine CodT.block ?_
      refine CodT.seq ?_
      refine CodT.regionL [0, 1] (by kernel_rfl) ?_
      refine OpsT.pures (r := []) [0, 1] [0, 1, 5, 7, 8] (S' := [(0, .slice A_a0 a0.length c_a0), (1, .func (.func 87) #[] #[.pointer (some ⟨b_a1_c0, 0, none⟩), .pointer (some ⟨b_a1_c1, 0, none⟩)]), (5, .int .i64 x1), (7, .int .i64 (a0.length : Int)), (8, .int .i64 x1)]) (by kernel_rfl) ?_
      refine OpsT.done ?_
      refine Qn.then ?_
      refine CodT.seq ?_
      refine CodT.regionL [0, 1, 2, 3, 4, 5] (by kernel_rfl) ?_
      refine OpsT.pures (r := [3, 4, 5]) [0, 1, 2] [0, 1, 5, 7, 8, 11, 12, 13] (S' := [(0, .slice A_a0 a0.length c_a0), (1, .func (.func 87) #[] #[.pointer (some ⟨b_a1_c0, 0, none⟩), .pointer (some ⟨b_a1_c1, 0, none⟩)]), (5, .int .i64 x1), (7, .int .i64 (a0.length : Int)), (8, .int .i64 x1), (11, .func (.func 87) #[] #[.pointer (some ⟨b_a1_c0, 0, none⟩), .pointer (some ⟨b_a1_c1, 0, none⟩)]), (12, .slice A_a0 a0.length c_a0), (13, .int .i64 x1)]) (by kernel_rfl) ?_
      obtain ⟨hg3, h1⟩ := guardS h1
      obtain ⟨g4, o8, hA5, hr6, hl7⟩ := RdS.get hr_a0 hg3.1 hg3.2
      refine OpsT.cons (Does.yi (Yl.indexSlice (d := 14) (T := 23) (cc := c_a0) (k := .i64) (j := x1) (g := g4) (o := o8) (by kernel_rfl) Go.Proofs.Try.underlying23 ty3 hA5 hg3.1 hg3.2) hI ?_)
      refine OpsT.cons (Does.yi (Yl.load (d := 15) (T := 3) (v := .int .i64 (gt a0 x1)) (by kernel_rfl) (ldR ty3 (v := .int .i64 (gt a0 x1)) 0 (fun w hC => hr6 w0 w _ hC) (by kernel_rfl))) hI ?_)
      obtain ⟨y10, hc9, h1⟩ := bindS h1
      try dsimp only at h1
      refine OpsT.cons (Does.call (d := some 16) (n := 87) (vs := [.int .i64 (gt a0 x1), .pointer (some ⟨b_a1_c0, 0, none⟩), .pointer (some ⟨b_a1_c1, 0, none⟩)]) (by kernel_rfl) en87 (c87 w0 w _ _ hI (gt a0 x1) b_a1_c0 hz_a1_c0 b_a1_c1 a1_c1_v hz_a1_c1 _ hc9) ?_)
      rintro e w ⟨rfl, hI⟩
      refine ⟨_, rfl, ?_⟩
      refine OpsT.done ?_
      refine Qn.then ?_
      by_cases hb11 : y10 = true
      · rw [if_pos hb11] at h1
        refine CodT.yes' (b := y10) (by kernel_rfl) hb11 ?_
        refine CodT.seq ?_
        refine CodT.regionL [0, 1] (by kernel_rfl) ?_
        refine OpsT.pures (r := []) [0, 1] [4] (S' := [(4, .int .i64 x1)]) (by kernel_rfl) ?_
        refine OpsT.done ?_
        refine Qn.then ?_
        refine CodT.ret ?_
        refine Qn.block_ret ?_
        refine Qn.ret_then ?_
        refine Qn.ret_then ?_
        refine Qn.block_ret ?_
        refine Qn.ret_then ?_
        refine Qn.ret_then ?_
        have e := someS h1
        subst e
        try dsimp only at h0
        have e := someS h0
        subst e
        refine Qn.keep [4] (S' := [(4, .int .i64 x1)]) (by kernel_rfl) ?_
        exact post_ret (v := .int .i64 x1) (fun a ha => RunRes.run (vs := [.int .i64 x1]) (.tmp (t := 4) (by kernel_rfl) .nil) ha (by kernel_rfl)) ⟨rfl, hI⟩
      · rw [if_neg hb11] at h1
        refine CodT.no' (b := y10) (by kernel_rfl) (by simpa using hb11) ?_
        refine CodT.skip ?_
        refine Qn.block_normal ?_
        refine Qn.then ?_
        refine CodT.regionL [0, 1] (by kernel_rfl) ?_
        refine OpsT.pures (r := []) [0, 1] [0, 1, 7, 8] (S' := [(0, .slice A_a0 a0.length c_a0), (1, .func (.func 87) #[] #[.pointer (some ⟨b_a1_c0, 0, none⟩), .pointer (some ⟨b_a1_c1, 0, none⟩)]), (7, .int .i64 (a0.length : Int)), (8, .int .i64 (wi64 (x1 + 1)))]) (by kernel_rfl) ?_
        refine OpsT.done ?_
        exact Qn.thenJ fun a ha => ⟨k, Nat.lt_succ_self k, wi64 (x1 + 1), h1, ha.keep [0, 1, 7, 8] (by kernel_rfl), hI⟩
    · rw [if_neg hb2] at h1
      refine CodT.no' (b := decide (x1 < (a0.length : Int))) (by kernel_rfl) (by simpa using hb2) ?_
      refine CodT.exit ?_
      refine Qn.exit_then ?_
      refine Qn.exit_then ?_
      refine Qn.block ?_
      have e := someS h1
      subst e
      exact Qn.thenJ fun a ha => ⟨rfl, ha.keep [] (by kernel_rfl), hI⟩
  ·
    rintro a w ⟨rfl, ha, hI⟩
    try dsimp only at h0
    refine Qn.of ?_ ha
    refine Qn.then ?_
    refine CodT.seq ?_
    refine CodT.regionL [0] (by kernel_rfl) ?_
    refine OpsT.pures (r := []) [0] [4] (S' := [(4, .int .i64 (-1))]) (by kernel_rfl) ?_
    refine OpsT.done ?_
    refine Qn.then ?_
    refine CodT.ret ?_
    have e := someS h0
    subst e
    refine Qn.keep [4] (S' := [(4, .int .i64 (-1))]) (by kernel_rfl) ?_
    exact post_ret (v := .int .i64 (-1)) (fun a ha => RunRes.run (vs := [.int .i64 (-1)]) (.tmp (t := 4) (by kernel_rfl) .nil) ha (by kernel_rfl)) ⟨rfl, hI⟩
end Go.Cen
