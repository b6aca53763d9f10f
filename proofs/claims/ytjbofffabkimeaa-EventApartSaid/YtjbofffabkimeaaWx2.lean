/- That the machine computes these: walks, printed by a program of ours. -/
import Derived.Test.YtjbofffabkimeaaPx
import Derived.Test.YtjbofffabkimeaaWx1
set_option linter.unusedVariables false
set_option linter.unusedSimpArgs false
namespace Go.Cen
variable [TabC]
set_option maxRecDepth 100000 in
set_option maxHeartbeats 4000000 in
/-- (*strings.Builder).WriteByte -/
theorem c64 (w0 w : World) (Z : Hp) (A : HP)  (hT : Tabs Z) (b_a0 : Nat) (a0_v_addr : Bool) (A_a0_v_buf : Option Addr) (c_a0_v_buf : Nat) (a0_v_buf : (List Int)) (a1 : Int) (hI : Inv w0 Z w (star (pt b_a0 (.cells ((([selfP b_a0 a0_v_addr, .slice A_a0_v_buf a0_v_buf.length c_a0_v_buf] : List Value))).toArray 113 (0, 0))) (star (ownS 5 (cI .u8) 1 A_a0_v_buf c_a0_v_buf a0_v_buf) A))) (r : (Dyn115 × Bool × (List Int))) (h0 : strings_Builder_WriteByte a0_v_addr a0_v_buf a1 = some r) :
    Calls prog 64 #[.pointer (some ⟨b_a0, 0, none⟩), .int .u8 a1] w (fun e w' => ∃ (A1 : Option Addr) (c1 : Nat), e = .returned (dynV115 r.1) ∧ Inv w0 Z w' (star (pt b_a0 (.cells ((([selfP b_a0 r.2.1, .slice A1 r.2.2.length c1] : List Value))).toArray 113 (0, 0))) (star (ownS 5 (cI .u8) 1 A1 c1 r.2.2) A))) := by
  have e4 := calls_intro (R := (fun e w' => ∃ (A1 : Option Addr) (c1 : Nat), e = .returned (dynV115 r.1) ∧ Inv w0 Z w' (star (pt b_a0 (.cells ((([selfP b_a0 r.2.1, .slice A1 r.2.2.length c1] : List Value))).toArray 113 (0, 0))) (star (ownS 5 (cI .u8) 1 A1 c1 r.2.2) A)))) (w := w) (args := [.pointer (some ⟨b_a0, 0, none⟩), .int .u8 a1]) (fn := Go.Proofs.Try.f64) 17 Go.Proofs.Try.func64 (by rfl) Go.Proofs.Try.ntmps64 (by kernel_rfl)
  refine e4 ?_
  clear e4
  unfold strings_Builder_WriteByte at h0
  refine CodT.seq ?_
  refine CodT.regionL [0] (by kernel_rfl) ?_
  refine OpsT.pures (r := []) [0] [0, 1] (S' := [(0, .pointer (some ⟨b_a0, 0, none⟩)), (1, .int .u8 a1)]) (by kernel_rfl) ?_
  refine OpsT.done ?_
  refine Qn.then ?_
  refine CodT.seq ?_
  refine CodT.regionL [0, 1] (by kernel_rfl) ?_
  refine OpsT.pures (r := [1]) [0] [0, 1, 5] (S' := [(0, .pointer (some ⟨b_a0, 0, none⟩)), (1, .int .u8 a1), (5, .pointer (some ⟨b_a0, 0, none⟩))]) (by kernel_rfl) ?_
  have hI := hI.mono (pick2 _ _ _)
  have hI := hI.mono (pick2 _ _ _)
  obtain ⟨⟨y2, y3⟩, hc1, h0⟩ := bindS h0
  try dsimp only at h0
  refine OpsT.cons (Does.call (d := some 6) (n := 69) (vs := [.pointer (some ⟨b_a0, 0, none⟩)]) (by kernel_rfl) en69 (c69 w0 w _ _ hT b_a0 a0_v_addr A_a0_v_buf c_a0_v_buf a0_v_buf hI _ hc1) ?_)
  rintro e w ⟨A4, cp5, rfl, hI⟩
  refine ⟨_, rfl, ?_⟩
  refine OpsT.done ?_
  refine Qn.then ?_
  refine CodT.seq ?_
  refine CodT.regionL [0, 1, 2, 3, 4, 5, 6, 7, 8, 9, 10] (by kernel_rfl) ?_
  refine OpsT.pures (r := [4, 5, 6, 7, 8, 9, 10]) [0, 1, 2, 3] [1, 7, 10] (S' := [(1, .int .u8 a1), (7, .pointer (some ⟨b_a0, 0, none⟩)), (10, .pointer (some ⟨b_a0, 1, none⟩))]) (by kernel_rfl) ?_
  refine OpsT.cons (Does.yi (Yl.load (d := 11) (T := 37) (v := .slice A4 y3.length cp5) (by kernel_rfl) (ldB ty37 (l := (([selfP b_a0 y2, .slice A4 y3.length cp5] : List Value))) (o := 1) (v := .slice A4 y3.length cp5) (ent_refl _) (by kernel_rfl))) hI ?_)
  refine OpsT.pures (r := [6, 7, 8, 9, 10]) [5] [7, 11, 12] (S' := [(7, .pointer (some ⟨b_a0, 0, none⟩)), (11, .slice A4 y3.length cp5), (12, .int .u8 a1)]) (by kernel_rfl) ?_
  refine OpsT.cons (Does.buildSlice (en := (cI .u8)) (d := 13) (n := 1) (T := 37) (ps := [(0, .int .u8 a1)]) ([a1] : List Int) (by kernel_rfl) Go.Proofs.Try.underlying37 ty5 (by kernel_rfl) (by kernel_rfl) (by kernel_rfl) (by kernel_rfl) (len_all (fun _ => rfl)) hI ?_)
  intro b6 w hI
  obtain ⟨hg7, h0⟩ := guardS h0
  have hI := hI.mono (pick3 _ _ _ _)
  refine OpsT.cons (Does.append (d := 14) (t := 37) (tx := 37) (ty := 37) (ys := y3) (zs := ([a1] : List Int)) (x := .slice (some ⟨b6, 0, none⟩) (([a1] : List Int).length) 1) (by kernel_rfl) Go.Proofs.Try.underlying37 ty5 (by kernel_rfl) hI (src_own Go.Proofs.Try.underlying37 (hI.mono (pick2 _ _ _)) (one_flat _ (fun _ => rfl))) (ownS_facts (hI.mono (pick2 _ _ _))).2.2 (by unfold LIM at hg7; omega) hg7 ?_)
  intro A8 cp9 w hI
  refine OpsT.pures (r := [10]) [8, 9] [14, 16] (S' := [(14, .slice A8 ((y3 ++ ([a1] : List Int)).length) cp9), (16, .pointer (some ⟨b_a0, 1, none⟩))]) (by kernel_rfl) ?_
  have hI := hI.mono (pick3 _ _ _ _)
  refine OpsT.cons (Does.storeLit (T := 37) (b := b_a0) (o := 1) (v := .slice A8 ((y3 ++ ([a1] : List Int)).length) cp9) (l := (([selfP b_a0 y2, .slice A4 y3.length cp5] : List Value))) (vs := ([.slice A8 ((y3 ++ ([a1] : List Int)).length) cp9] : List Value)) (L' := (([selfP b_a0 y2, .slice A8 ((y3 ++ ([a1] : List Int)).length) cp9] : List Value))) (by kernel_rfl) ty37 hI (by kernel_rfl) (by kernel_rfl) (by kernel_rfl) (by kernel_rfl) (by kernel_rfl) ?_)
  intro w hI
  refine OpsT.done ?_
  refine Qn.then ?_
  refine CodT.seq ?_
  refine CodT.regionL [0] (by kernel_rfl) ?_
  refine OpsT.pures (r := []) [0] [4] (S' := [(4, .nilIface)]) (by kernel_rfl) ?_
  refine OpsT.done ?_
  refine Qn.then ?_
  refine CodT.ret ?_
  have hI := hI.mono (pick3 _ _ _ _)
  have hI := hI.drop
  have e := someS h0
  subst e
  refine Qn.keep [4] (S' := [(4, .nilIface)]) (by kernel_rfl) ?_
  exact post_ret (v := .nilIface) (fun a ha => RunRes.run (vs := [.nilIface]) (.tmp (t := 4) (by kernel_rfl) .nil) ha (by kernel_rfl)) ⟨A8, cp9, rfl, hI⟩
set_option maxRecDepth 100000 in
set_option maxHeartbeats 4000000 in
/-- unicode/utf8.appendRuneNonASCII -/
theorem c73 (w0 w : World) (Z : Hp) (A : HP)  (hT : Tabs Z) (A_a0 : Option Addr) (c_a0 : Nat) (a0 : (List Int)) (a1 : Int) (hI : Inv w0 Z w (star (ownS 5 (cI .u8) 1 A_a0 c_a0 a0) A)) (r : (List Int)) (h0 : utf8_appendRuneNonASCII a0 a1 = some r) :
    Calls prog 73 #[.slice A_a0 a0.length c_a0, .int .i32 a1] w (fun e w' => ∃ (A1 : Option Addr) (c1 : Nat), e = .returned (.slice A1 r.length c1) ∧ Inv w0 Z w' (star (ownS 5 (cI .u8) 1 A1 c1 r) A)) := by
  have e4 := calls_intro (R := (fun e w' => ∃ (A1 : Option Addr) (c1 : Nat), e = .returned (.slice A1 r.length c1) ∧ Inv w0 Z w' (star (ownS 5 (cI .u8) 1 A1 c1 r) A))) (w := w) (args := [.slice A_a0 a0.length c_a0, .int .i32 a1]) (fn := Go.Proofs.Try.f73) 78 Go.Proofs.Try.func73 (by rfl) Go.Proofs.Try.ntmps73 (by kernel_rfl)
  refine e4 ?_
  clear e4
  unfold utf8_appendRuneNonASCII at h0
  refine CodT.seq ?_
  refine CodT.regionL [0] (by kernel_rfl) ?_
  refine OpsT.pures (r := []) [0] [0, 1] (S' := [(0, .slice A_a0 a0.length c_a0), (1, .int .i32 a1)]) (by kernel_rfl) ?_
  refine OpsT.done ?_
  refine Qn.then ?_
  refine CodT.seq ?_
  refine CodT.regionL [0, 1, 2] (by kernel_rfl) ?_
  refine OpsT.pures (r := []) [0, 1, 2] [0, 1, 5] (S' := [(0, .slice A_a0 a0.length c_a0), (1, .int .i32 a1), (5, .int .u32 (wu32 a1))]) (by kernel_rfl) ?_
  refine OpsT.done ?_
  refine Qn.then ?_
  refine CodT.block ?_
  refine CodT.seq ?_
  refine CodT.regionL [0, 1, 2] (by kernel_rfl) ?_
  refine OpsT.pures (r := []) [0, 1, 2] [0, 1, 5, 11] (S' := [(0, .slice A_a0 a0.length c_a0), (1, .int .i32 a1), (5, .int .u32 (wu32 a1)), (11, .bool (decide ((wu32 a1) ≤ 2047)))]) (by kernel_rfl) ?_
  refine OpsT.done ?_
  refine Qn.then ?_
  by_cases hb1 : (decide ((wu32 a1) ≤ 2047)) = true
  · rw [if_pos hb1] at h0
    refine CodT.yes' (b := decide ((wu32 a1) ≤ 2047)) (by kernel_rfl) hb1 ?_
    refine CodT.seq ?_
    refine CodT.regionL [0, 1, 2, 3, 4, 5, 6, 7, 8, 9, 10, 11] (by kernel_rfl) ?_
    refine OpsT.pures (r := [9, 10, 11]) [0, 1, 2, 3, 4, 5, 6, 7, 8] [14, 18, 22] (S' := [(14, .slice A_a0 a0.length c_a0), (18, .int .u8 (bOr .u8 192 (wu8 (bShr .i32 a1 6)))), (22, .int .u8 (bOr .u8 128 (bAnd .u8 (wu8 a1) 63)))]) (by kernel_rfl) ?_
    refine OpsT.cons (Does.buildSlice (en := (cI .u8)) (d := 23) (n := 2) (T := 37) (ps := [(0, .int .u8 (bOr .u8 192 (wu8 (bShr .i32 a1 6)))), (1, .int .u8 (bOr .u8 128 (bAnd .u8 (wu8 a1) 63)))]) ([bOr .u8 192 (wu8 (bShr .i32 a1 6)), bOr .u8 128 (bAnd .u8 (wu8 a1) 63)] : List Int) (by kernel_rfl) Go.Proofs.Try.underlying37 ty5 (by kernel_rfl) (by kernel_rfl) (by kernel_rfl) (by kernel_rfl) (len_all (fun _ => rfl)) hI ?_)
    intro b2 w hI
    obtain ⟨hg3, h0⟩ := guardS h0
    have hI := hI.mono (pick2 _ _ _)
    refine OpsT.cons (Does.append (d := 24) (t := 37) (tx := 37) (ty := 37) (ys := a0) (zs := ([bOr .u8 192 (wu8 (bShr .i32 a1 6)), bOr .u8 128 (bAnd .u8 (wu8 a1) 63)] : List Int)) (x := .slice (some ⟨b2, 0, none⟩) (([bOr .u8 192 (wu8 (bShr .i32 a1 6)), bOr .u8 128 (bAnd .u8 (wu8 a1) 63)] : List Int).length) 2) (by kernel_rfl) Go.Proofs.Try.underlying37 ty5 (by kernel_rfl) hI (src_own Go.Proofs.Try.underlying37 (hI.mono (pick2 _ _ _)) (one_flat _ (fun _ => rfl))) (ownS_facts (hI.mono (pick2 _ _ _))).2.2 (by unfold LIM at hg3; omega) hg3 ?_)
    intro A4 cp5 w hI
    refine OpsT.pures (r := []) [11] [4] (S' := [(4, .slice A4 ((a0 ++ ([bOr .u8 192 (wu8 (bShr .i32 a1 6)), bOr .u8 128 (bAnd .u8 (wu8 a1) 63)] : List Int)).length) cp5)]) (by kernel_rfl) ?_
    refine OpsT.done ?_
    refine Qn.then ?_
    refine CodT.ret ?_
    refine Qn.block_ret ?_
    have hI := hI.mono (pick2 _ _ _)
    have hI := hI.drop
    have e := someS h0
    subst e
    refine Qn.keep [4] (S' := [(4, .slice A4 ((a0 ++ ([bOr .u8 192 (wu8 (bShr .i32 a1 6)), bOr .u8 128 (bAnd .u8 (wu8 a1) 63)] : List Int)).length) cp5)]) (by kernel_rfl) ?_
    exact post_ret (v := .slice A4 ((a0 ++ ([bOr .u8 192 (wu8 (bShr .i32 a1 6)), bOr .u8 128 (bAnd .u8 (wu8 a1) 63)] : List Int)).length) cp5) (fun a ha => RunRes.run (vs := [.slice A4 ((a0 ++ ([bOr .u8 192 (wu8 (bShr .i32 a1 6)), bOr .u8 128 (bAnd .u8 (wu8 a1) 63)] : List Int)).length) cp5]) (.tmp (t := 4) (by kernel_rfl) .nil) ha (by kernel_rfl)) ⟨A4, cp5, rfl, hI⟩
  · rw [if_neg hb1] at h0
    refine CodT.no' (b := decide ((wu32 a1) ≤ 2047)) (by kernel_rfl) (by simpa using hb1) ?_
    obtain ⟨r1, h1, h0⟩ := bindS h0
    refine CodT.meet (fun a w => ∃ (x6 : Bool), x6 = r1 ∧ Fr 78 [(0, .slice A_a0 a0.length c_a0), (1, .int .i32 a1), (5, .int .u32 (wu32 a1)), (25, .bool x6)] a ∧ Inv w0 Z w (star (ownS 5 (cI .u8) 1 A_a0 c_a0 a0) A)) ?_ ?_
    ·
      refine CodT.seq ?_
      refine CodT.regionL [0, 1, 2] (by kernel_rfl) ?_
      refine OpsT.pures (r := []) [0, 1, 2] [0, 1, 5, 25] (S' := [(0, .slice A_a0 a0.length c_a0), (1, .int .i32 a1), (5, .int .u32 (wu32 a1)), (25, .bool (decide ((wu32 a1) < 55296)))]) (by kernel_rfl) ?_
      refine OpsT.done ?_
      refine Qn.then ?_
      by_cases hb7 : (decide ((wu32 a1) < 55296)) = true
      · rw [if_pos hb7] at h1
        refine CodT.yes' (b := decide ((wu32 a1) < 55296)) (by kernel_rfl) hb7 ?_
        refine CodT.skip ?_
        have e := someS h1
        subst e
        exact Qn.thenJ fun a ha => ⟨decide ((wu32 a1) < 55296), rfl, ha.keep [0, 1, 5, 25] (by kernel_rfl), hI⟩
      · rw [if_neg hb7] at h1
        refine CodT.no' (b := decide ((wu32 a1) < 55296)) (by kernel_rfl) (by simpa using hb7) ?_
        refine CodT.regionL [0, 1, 2, 3, 4, 5, 6] (by kernel_rfl) ?_
        refine OpsT.pures (r := [3, 4, 5, 6]) [0, 1, 2] [0, 1, 5, 30] (S' := [(0, .slice A_a0 a0.length c_a0), (1, .int .i32 a1), (5, .int .u32 (wu32 a1)), (30, .bool (decide ((57343 : Int) < (wu32 a1))))]) (by kernel_rfl) ?_
        by_cases hb8 : (decide ((57343 : Int) < (wu32 a1))) = true
        · rw [if_pos hb8] at h1
          refine OpsT.keep [0, 1, 5, 30] (S' := [(0, .slice A_a0 a0.length c_a0), (1, .int .i32 a1), (5, .int .u32 (wu32 a1)), (30, .bool true)]) (by (try simp only [hb8]); kernel_rfl) ?_
          refine OpsT.pures (r := []) [3, 4, 5, 6] [0, 1, 5, 25] (S' := [(0, .slice A_a0 a0.length c_a0), (1, .int .i32 a1), (5, .int .u32 (wu32 a1)), (25, .bool (decide ((wu32 a1) ≤ 65535)))]) (by kernel_rfl) ?_
          refine OpsT.done ?_
          have e := someS h1
          subst e
          exact Qn.thenJ fun a ha => ⟨decide ((wu32 a1) ≤ 65535), rfl, ha.keep [0, 1, 5, 25] (by kernel_rfl), hI⟩
        · rw [if_neg hb8] at h1
          have hb8 : (decide ((57343 : Int) < (wu32 a1))) = false := by simpa using hb8
          refine OpsT.keep [0, 1, 5, 30] (S' := [(0, .slice A_a0 a0.length c_a0), (1, .int .i32 a1), (5, .int .u32 (wu32 a1)), (30, .bool false)]) (by (try simp only [hb8]); kernel_rfl) ?_
          refine OpsT.pures (r := []) [3, 4, 5, 6] [0, 1, 5, 25] (S' := [(0, .slice A_a0 a0.length c_a0), (1, .int .i32 a1), (5, .int .u32 (wu32 a1)), (25, .bool false)]) (by kernel_rfl) ?_
          refine OpsT.done ?_
          have e := someS h1
          subst e
          exact Qn.thenJ fun a ha => ⟨false, rfl, ha.keep [0, 1, 5, 25] (by kernel_rfl), hI⟩
    ·
      rintro a w ⟨x6, rfl, ha, hI⟩
      try dsimp only at h0
      refine CodT.of ?_ ha
      by_cases hb9 : x6 = true
      · rw [if_pos hb9] at h0
        refine CodT.yes' (b := x6) (by kernel_rfl) hb9 ?_
        refine CodT.seq ?_
        refine CodT.regionL [0, 1, 2, 3, 4, 5, 6, 7, 8, 9, 10, 11, 12, 13, 14, 15, 16] (by kernel_rfl) ?_
        refine OpsT.pures (r := [14, 15, 16]) [0, 1, 2, 3, 4, 5, 6, 7, 8, 9, 10, 11, 12, 13] [34, 38, 43, 47] (S' := [(34, .slice A_a0 a0.length c_a0), (38, .int .u8 (bOr .u8 224 (wu8 (bShr .i32 a1 12)))), (43, .int .u8 (bOr .u8 128 (bAnd .u8 (wu8 (bShr .i32 a1 6)) 63))), (47, .int .u8 (bOr .u8 128 (bAnd .u8 (wu8 a1) 63)))]) (by kernel_rfl) ?_
        refine OpsT.cons (Does.buildSlice (en := (cI .u8)) (d := 48) (n := 3) (T := 37) (ps := [(0, .int .u8 (bOr .u8 224 (wu8 (bShr .i32 a1 12)))), (1, .int .u8 (bOr .u8 128 (bAnd .u8 (wu8 (bShr .i32 a1 6)) 63))), (2, .int .u8 (bOr .u8 128 (bAnd .u8 (wu8 a1) 63)))]) ([bOr .u8 224 (wu8 (bShr .i32 a1 12)), bOr .u8 128 (bAnd .u8 (wu8 (bShr .i32 a1 6)) 63), bOr .u8 128 (bAnd .u8 (wu8 a1) 63)] : List Int) (by kernel_rfl) Go.Proofs.Try.underlying37 ty5 (by kernel_rfl) (by kernel_rfl) (by kernel_rfl) (by kernel_rfl) (len_all (fun _ => rfl)) hI ?_)
        intro b10 w hI
        obtain ⟨hg11, h0⟩ := guardS h0
        have hI := hI.mono (pick2 _ _ _)
        refine OpsT.cons (Does.append (d := 49) (t := 37) (tx := 37) (ty := 37) (ys := a0) (zs := ([bOr .u8 224 (wu8 (bShr .i32 a1 12)), bOr .u8 128 (bAnd .u8 (wu8 (bShr .i32 a1 6)) 63), bOr .u8 128 (bAnd .u8 (wu8 a1) 63)] : List Int)) (x := .slice (some ⟨b10, 0, none⟩) (([bOr .u8 224 (wu8 (bShr .i32 a1 12)), bOr .u8 128 (bAnd .u8 (wu8 (bShr .i32 a1 6)) 63), bOr .u8 128 (bAnd .u8 (wu8 a1) 63)] : List Int).length) 3) (by kernel_rfl) Go.Proofs.Try.underlying37 ty5 (by kernel_rfl) hI (src_own Go.Proofs.Try.underlying37 (hI.mono (pick2 _ _ _)) (one_flat _ (fun _ => rfl))) (ownS_facts (hI.mono (pick2 _ _ _))).2.2 (by unfold LIM at hg11; omega) hg11 ?_)
        intro A12 cp13 w hI
        refine OpsT.pures (r := []) [16] [4] (S' := [(4, .slice A12 ((a0 ++ ([bOr .u8 224 (wu8 (bShr .i32 a1 12)), bOr .u8 128 (bAnd .u8 (wu8 (bShr .i32 a1 6)) 63), bOr .u8 128 (bAnd .u8 (wu8 a1) 63)] : List Int)).length) cp13)]) (by kernel_rfl) ?_
        refine OpsT.done ?_
        refine Qn.then ?_
        refine CodT.ret ?_
        refine Qn.block_ret ?_
        have hI := hI.mono (pick2 _ _ _)
        have hI := hI.drop
        have e := someS h0
        subst e
        refine Qn.keep [4] (S' := [(4, .slice A12 ((a0 ++ ([bOr .u8 224 (wu8 (bShr .i32 a1 12)), bOr .u8 128 (bAnd .u8 (wu8 (bShr .i32 a1 6)) 63), bOr .u8 128 (bAnd .u8 (wu8 a1) 63)] : List Int)).length) cp13)]) (by kernel_rfl) ?_
        exact post_ret (v := .slice A12 ((a0 ++ ([bOr .u8 224 (wu8 (bShr .i32 a1 12)), bOr .u8 128 (bAnd .u8 (wu8 (bShr .i32 a1 6)) 63), bOr .u8 128 (bAnd .u8 (wu8 a1) 63)] : List Int)).length) cp13) (fun a ha => RunRes.run (vs := [.slice A12 ((a0 ++ ([bOr .u8 224 (wu8 (bShr .i32 a1 12)), bOr .u8 128 (bAnd .u8 (wu8 (bShr .i32 a1 6)) 63), bOr .u8 128 (bAnd .u8 (wu8 a1) 63)] : List Int)).length) cp13]) (.tmp (t := 4) (by kernel_rfl) .nil) ha (by kernel_rfl)) ⟨A12, cp13, rfl, hI⟩
      · rw [if_neg hb9] at h0
        refine CodT.no' (b := x6) (by kernel_rfl) (by simpa using hb9) ?_
        obtain ⟨r1, h1, h0⟩ := bindS h0
        refine CodT.meet (fun a w => ∃ (x14 : Bool), x14 = r1 ∧ Fr 78 [(0, .slice A_a0 a0.length c_a0), (1, .int .i32 a1), (50, .bool x14)] a ∧ Inv w0 Z w (star (ownS 5 (cI .u8) 1 A_a0 c_a0 a0) A)) ?_ ?_
        ·
          refine CodT.regionL [0, 1, 2, 3, 4, 5, 6] (by kernel_rfl) ?_
          refine OpsT.pures (r := [3, 4, 5, 6]) [0, 1, 2] [0, 1, 5, 53] (S' := [(0, .slice A_a0 a0.length c_a0), (1, .int .i32 a1), (5, .int .u32 (wu32 a1)), (53, .bool (decide ((wu32 a1) > 65535)))]) (by kernel_rfl) ?_
          by_cases hb15 : (decide ((wu32 a1) > 65535)) = true
          · rw [if_pos hb15] at h1
            refine OpsT.keep [0, 1, 5, 53] (S' := [(0, .slice A_a0 a0.length c_a0), (1, .int .i32 a1), (5, .int .u32 (wu32 a1)), (53, .bool true)]) (by (try simp only [hb15]); kernel_rfl) ?_
            refine OpsT.pures (r := []) [3, 4, 5, 6] [0, 1, 50] (S' := [(0, .slice A_a0 a0.length c_a0), (1, .int .i32 a1), (50, .bool (decide ((wu32 a1) ≤ 1114111)))]) (by kernel_rfl) ?_
            refine OpsT.done ?_
            have e := someS h1
            subst e
            exact Qn.thenJ fun a ha => ⟨decide ((wu32 a1) ≤ 1114111), rfl, ha.keep [0, 1, 50] (by kernel_rfl), hI⟩
          · rw [if_neg hb15] at h1
            have hb15 : (decide ((wu32 a1) > 65535)) = false := by simpa using hb15
            refine OpsT.keep [0, 1, 5, 53] (S' := [(0, .slice A_a0 a0.length c_a0), (1, .int .i32 a1), (5, .int .u32 (wu32 a1)), (53, .bool false)]) (by (try simp only [hb15]); kernel_rfl) ?_
            refine OpsT.pures (r := []) [3, 4, 5, 6] [0, 1, 50] (S' := [(0, .slice A_a0 a0.length c_a0), (1, .int .i32 a1), (50, .bool false)]) (by kernel_rfl) ?_
            refine OpsT.done ?_
            have e := someS h1
            subst e
            exact Qn.thenJ fun a ha => ⟨false, rfl, ha.keep [0, 1, 50] (by kernel_rfl), hI⟩
        ·
          rintro a w ⟨x14, rfl, ha, hI⟩
          try dsimp only at h0
          refine CodT.of ?_ ha
          by_cases hb16 : x14 = true
          · rw [if_pos hb16] at h0
            refine CodT.yes' (b := x14) (by kernel_rfl) hb16 ?_
            refine CodT.seq ?_
            refine CodT.regionL [0, 1, 2, 3, 4, 5, 6, 7, 8, 9, 10, 11, 12, 13, 14, 15, 16, 17, 18, 19, 20, 21] (by kernel_rfl) ?_
            refine OpsT.pures (r := [19, 20, 21]) [0, 1, 2, 3, 4, 5, 6, 7, 8, 9, 10, 11, 12, 13, 14, 15, 16, 17, 18] [57, 61, 66, 71, 75] (S' := [(57, .slice A_a0 a0.length c_a0), (61, .int .u8 (bOr .u8 240 (wu8 (bShr .i32 a1 18)))), (66, .int .u8 (bOr .u8 128 (bAnd .u8 (wu8 (bShr .i32 a1 12)) 63))), (71, .int .u8 (bOr .u8 128 (bAnd .u8 (wu8 (bShr .i32 a1 6)) 63))), (75, .int .u8 (bOr .u8 128 (bAnd .u8 (wu8 a1) 63)))]) (by kernel_rfl) ?_
            refine OpsT.cons (Does.buildSlice (en := (cI .u8)) (d := 76) (n := 4) (T := 37) (ps := [(0, .int .u8 (bOr .u8 240 (wu8 (bShr .i32 a1 18)))), (1, .int .u8 (bOr .u8 128 (bAnd .u8 (wu8 (bShr .i32 a1 12)) 63))), (2, .int .u8 (bOr .u8 128 (bAnd .u8 (wu8 (bShr .i32 a1 6)) 63))), (3, .int .u8 (bOr .u8 128 (bAnd .u8 (wu8 a1) 63)))]) ([bOr .u8 240 (wu8 (bShr .i32 a1 18)), bOr .u8 128 (bAnd .u8 (wu8 (bShr .i32 a1 12)) 63), bOr .u8 128 (bAnd .u8 (wu8 (bShr .i32 a1 6)) 63), bOr .u8 128 (bAnd .u8 (wu8 a1) 63)] : List Int) (by kernel_rfl) Go.Proofs.Try.underlying37 ty5 (by kernel_rfl) (by kernel_rfl) (by kernel_rfl) (by kernel_rfl) (len_all (fun _ => rfl)) hI ?_)
            intro b17 w hI
            obtain ⟨hg18, h0⟩ := guardS h0
            have hI := hI.mono (pick2 _ _ _)
            refine OpsT.cons (Does.append (d := 77) (t := 37) (tx := 37) (ty := 37) (ys := a0) (zs := ([bOr .u8 240 (wu8 (bShr .i32 a1 18)), bOr .u8 128 (bAnd .u8 (wu8 (bShr .i32 a1 12)) 63), bOr .u8 128 (bAnd .u8 (wu8 (bShr .i32 a1 6)) 63), bOr .u8 128 (bAnd .u8 (wu8 a1) 63)] : List Int)) (x := .slice (some ⟨b17, 0, none⟩) (([bOr .u8 240 (wu8 (bShr .i32 a1 18)), bOr .u8 128 (bAnd .u8 (wu8 (bShr .i32 a1 12)) 63), bOr .u8 128 (bAnd .u8 (wu8 (bShr .i32 a1 6)) 63), bOr .u8 128 (bAnd .u8 (wu8 a1) 63)] : List Int).length) 4) (by kernel_rfl) Go.Proofs.Try.underlying37 ty5 (by kernel_rfl) hI (src_own Go.Proofs.Try.underlying37 (hI.mono (pick2 _ _ _)) (one_flat _ (fun _ => rfl))) (ownS_facts (hI.mono (pick2 _ _ _))).2.2 (by unfold LIM at hg18; omega) hg18 ?_)
            intro A19 cp20 w hI
            refine OpsT.pures (r := []) [21] [4] (S' := [(4, .slice A19 ((a0 ++ ([bOr .u8 240 (wu8 (bShr .i32 a1 18)), bOr .u8 128 (bAnd .u8 (wu8 (bShr .i32 a1 12)) 63), bOr .u8 128 (bAnd .u8 (wu8 (bShr .i32 a1 6)) 63), bOr .u8 128 (bAnd .u8 (wu8 a1) 63)] : List Int)).length) cp20)]) (by kernel_rfl) ?_
            refine OpsT.done ?_
            refine Qn.then ?_
            refine CodT.ret ?_
            refine Qn.block_ret ?_
            have hI := hI.mono (pick2 _ _ _)
            have hI := hI.drop
            have e := someS h0
            subst e
            refine Qn.keep [4] (S' := [(4, .slice A19 ((a0 ++ ([bOr .u8 240 (wu8 (bShr .i32 a1 18)), bOr .u8 128 (bAnd .u8 (wu8 (bShr .i32 a1 12)) 63), bOr .u8 128 (bAnd .u8 (wu8 (bShr .i32 a1 6)) 63), bOr .u8 128 (bAnd .u8 (wu8 a1) 63)] : List Int)).length) cp20)]) (by kernel_rfl) ?_
            exact post_ret (v := .slice A19 ((a0 ++ ([bOr .u8 240 (wu8 (bShr .i32 a1 18)), bOr .u8 128 (bAnd .u8 (wu8 (bShr .i32 a1 12)) 63), bOr .u8 128 (bAnd .u8 (wu8 (bShr .i32 a1 6)) 63), bOr .u8 128 (bAnd .u8 (wu8 a1) 63)] : List Int)).length) cp20) (fun a ha => RunRes.run (vs := [.slice A19 ((a0 ++ ([bOr .u8 240 (wu8 (bShr .i32 a1 18)), bOr .u8 128 (bAnd .u8 (wu8 (bShr .i32 a1 12)) 63), bOr .u8 128 (bAnd .u8 (wu8 (bShr .i32 a1 6)) 63), bOr .u8 128 (bAnd .u8 (wu8 a1) 63)] : List Int)).length) cp20]) (.tmp (t := 4) (by kernel_rfl) .nil) ha (by kernel_rfl)) ⟨A19, cp20, rfl, hI⟩
          · rw [if_neg hb16] at h0
            refine CodT.no' (b := x14) (by kernel_rfl) (by simpa using hb16) ?_
            refine CodT.seq ?_
            refine CodT.regionL [0, 1, 2, 3] (by kernel_rfl) ?_
            refine OpsT.pures (r := [1, 2, 3]) [0] [8] (S' := [(8, .slice A_a0 a0.length c_a0)]) (by kernel_rfl) ?_
            refine OpsT.cons (Does.buildSlice (en := (cI .u8)) (d := 9) (n := 3) (T := 37) (ps := [(0, .int .u8 239), (1, .int .u8 191), (2, .int .u8 189)]) ([239, 191, 189] : List Int) (by kernel_rfl) Go.Proofs.Try.underlying37 ty5 (by kernel_rfl) (by kernel_rfl) (by kernel_rfl) (by kernel_rfl) (len_all (fun _ => rfl)) hI ?_)
            intro b21 w hI
            obtain ⟨hg22, h0⟩ := guardS h0
            have hI := hI.mono (pick2 _ _ _)
            refine OpsT.cons (Does.append (d := 10) (t := 37) (tx := 37) (ty := 37) (ys := a0) (zs := ([239, 191, 189] : List Int)) (x := .slice (some ⟨b21, 0, none⟩) (([239, 191, 189] : List Int).length) 3) (by kernel_rfl) Go.Proofs.Try.underlying37 ty5 (by kernel_rfl) hI (src_own Go.Proofs.Try.underlying37 (hI.mono (pick2 _ _ _)) (one_flat _ (fun _ => rfl))) (ownS_facts (hI.mono (pick2 _ _ _))).2.2 (by unfold LIM at hg22; omega) hg22 ?_)
            intro A23 cp24 w hI
            refine OpsT.pures (r := []) [3] [4] (S' := [(4, .slice A23 ((a0 ++ ([239, 191, 189] : List Int)).length) cp24)]) (by kernel_rfl) ?_
            refine OpsT.done ?_
            refine Qn.then ?_
            refine CodT.ret ?_
            refine Qn.block_ret ?_
            have hI := hI.mono (pick2 _ _ _)
            have hI := hI.drop
            have e := someS h0
            subst e
            refine Qn.keep [4] (S' := [(4, .slice A23 ((a0 ++ ([239, 191, 189] : List Int)).length) cp24)]) (by kernel_rfl) ?_
            exact post_ret (v := .slice A23 ((a0 ++ ([239, 191, 189] : List Int)).length) cp24) (fun a ha => RunRes.run (vs := [.slice A23 ((a0 ++ ([239, 191, 189] : List Int)).length) cp24]) (.tmp (t := 4) (by kernel_rfl) .nil) ha (by kernel_rfl)) ⟨A23, cp24, rfl, hI⟩
set_option maxRecDepth 100000 in
set_option maxHeartbeats 4000000 in
/-- unicode/utf8.AppendRune -/
theorem c70 (w0 w : World) (Z : Hp) (A : HP)  (hT : Tabs Z) (A_a0 : Option Addr) (c_a0 : Nat) (a0 : (List Int)) (a1 : Int) (hI : Inv w0 Z w (star (ownS 5 (cI .u8) 1 A_a0 c_a0 a0) A)) (r : (List Int)) (h0 : utf8_AppendRune a0 a1 = some r) :
    Calls prog 70 #[.slice A_a0 a0.length c_a0, .int .i32 a1] w (fun e w' => ∃ (A1 : Option Addr) (c1 : Nat), e = .returned (.slice A1 r.length c1) ∧ Inv w0 Z w' (star (ownS 5 (cI .u8) 1 A1 c1 r) A)) := by
  have e4 := calls_intro (R := (fun e w' => ∃ (A1 : Option Addr) (c1 : Nat), e = .returned (.slice A1 r.length c1) ∧ Inv w0 Z w' (star (ownS 5 (cI .u8) 1 A1 c1 r) A))) (w := w) (args := [.slice A_a0 a0.length c_a0, .int .i32 a1]) (fn := Go.Proofs.Try.f70) 16 Go.Proofs.Try.func70 (by rfl) Go.Proofs.Try.ntmps70 (by kernel_rfl)
  refine e4 ?_
  clear e4
  unfold utf8_AppendRune at h0
  refine CodT.seq ?_
  refine CodT.regionL [0] (by kernel_rfl) ?_
  refine OpsT.pures (r := []) [0] [0, 1] (S' := [(0, .slice A_a0 a0.length c_a0), (1, .int .i32 a1)]) (by kernel_rfl) ?_
  refine OpsT.done ?_
  refine Qn.then ?_
  refine CodT.seq ?_
  refine CodT.seq ?_
  refine CodT.regionL [0, 1, 2] (by kernel_rfl) ?_
  refine OpsT.pures (r := []) [0, 1, 2] [0, 1, 7] (S' := [(0, .slice A_a0 a0.length c_a0), (1, .int .i32 a1), (7, .bool (decide ((wu32 a1) ≤ 127)))]) (by kernel_rfl) ?_
  refine OpsT.done ?_
  refine Qn.then ?_
  by_cases hb1 : (decide ((wu32 a1) ≤ 127)) = true
  · rw [if_pos hb1] at h0
    refine CodT.yes' (b := decide ((wu32 a1) ≤ 127)) (by kernel_rfl) hb1 ?_
    refine CodT.seq ?_
    refine CodT.regionL [0, 1, 2, 3, 4, 5] (by kernel_rfl) ?_
    refine OpsT.pures (r := [3, 4, 5]) [0, 1, 2] [8, 10] (S' := [(8, .slice A_a0 a0.length c_a0), (10, .int .u8 (wu8 a1))]) (by kernel_rfl) ?_
    refine OpsT.cons (Does.buildSlice (en := (cI .u8)) (d := 11) (n := 1) (T := 37) (ps := [(0, .int .u8 (wu8 a1))]) ([wu8 a1] : List Int) (by kernel_rfl) Go.Proofs.Try.underlying37 ty5 (by kernel_rfl) (by kernel_rfl) (by kernel_rfl) (by kernel_rfl) (len_all (fun _ => rfl)) hI ?_)
    intro b2 w hI
    obtain ⟨hg3, h0⟩ := guardS h0
    have hI := hI.mono (pick2 _ _ _)
    refine OpsT.cons (Does.append (d := 12) (t := 37) (tx := 37) (ty := 37) (ys := a0) (zs := ([wu8 a1] : List Int)) (x := .slice (some ⟨b2, 0, none⟩) (([wu8 a1] : List Int).length) 1) (by kernel_rfl) Go.Proofs.Try.underlying37 ty5 (by kernel_rfl) hI (src_own Go.Proofs.Try.underlying37 (hI.mono (pick2 _ _ _)) (one_flat _ (fun _ => rfl))) (ownS_facts (hI.mono (pick2 _ _ _))).2.2 (by unfold LIM at hg3; omega) hg3 ?_)
    intro A4 cp5 w hI
    refine OpsT.pures (r := []) [5] [4] (S' := [(4, .slice A4 ((a0 ++ ([wu8 a1] : List Int)).length) cp5)]) (by kernel_rfl) ?_
    refine OpsT.done ?_
    refine Qn.then ?_
    refine CodT.ret ?_
    refine Qn.ret_then ?_
    have hI := hI.mono (pick2 _ _ _)
    have hI := hI.drop
    have e := someS h0
    subst e
    refine Qn.keep [4] (S' := [(4, .slice A4 ((a0 ++ ([wu8 a1] : List Int)).length) cp5)]) (by kernel_rfl) ?_
    exact post_ret (v := .slice A4 ((a0 ++ ([wu8 a1] : List Int)).length) cp5) (fun a ha => RunRes.run (vs := [.slice A4 ((a0 ++ ([wu8 a1] : List Int)).length) cp5]) (.tmp (t := 4) (by kernel_rfl) .nil) ha (by kernel_rfl)) ⟨A4, cp5, rfl, hI⟩
  · rw [if_neg hb1] at h0
    refine CodT.no' (b := decide ((wu32 a1) ≤ 127)) (by kernel_rfl) (by simpa using hb1) ?_
    refine CodT.skip ?_
    refine Qn.then ?_
    refine CodT.seq ?_
    refine CodT.regionL [0, 1, 2, 3] (by kernel_rfl) ?_
    refine OpsT.pures (r := [2, 3]) [0, 1] [13, 14] (S' := [(13, .slice A_a0 a0.length c_a0), (14, .int .i32 a1)]) (by kernel_rfl) ?_
    obtain ⟨y7, hc6, h0⟩ := bindS h0
    try dsimp only at h0
    refine OpsT.cons (Does.call (d := some 15) (n := 73) (vs := [.slice A_a0 a0.length c_a0, .int .i32 a1]) (by kernel_rfl) en73 (c73 w0 w _ _ hT A_a0 c_a0 a0 a1 hI _ hc6) ?_)
    rintro e w ⟨A8, cp9, rfl, hI⟩
    refine ⟨_, rfl, ?_⟩
    refine OpsT.pures (r := []) [3] [4] (S' := [(4, .slice A8 y7.length cp9)]) (by kernel_rfl) ?_
    refine OpsT.done ?_
    refine Qn.then ?_
    refine CodT.ret ?_
    have e := someS h0
    subst e
    refine Qn.keep [4] (S' := [(4, .slice A8 y7.length cp9)]) (by kernel_rfl) ?_
    exact post_ret (v := .slice A8 y7.length cp9) (fun a ha => RunRes.run (vs := [.slice A8 y7.length cp9]) (.tmp (t := 4) (by kernel_rfl) .nil) ha (by kernel_rfl)) ⟨A8, cp9, rfl, hI⟩
set_option maxRecDepth 100000 in
set_option maxHeartbeats 4000000 in
/-- (*strings.Builder).WriteRune -/
theorem c65 (w0 w : World) (Z : Hp) (A : HP)  (hT : Tabs Z) (b_a0 : Nat) (a0_v_addr : Bool) (A_a0_v_buf : Option Addr) (c_a0_v_buf : Nat) (a0_v_buf : (List Int)) (a1 : Int) (hI : Inv w0 Z w (star (pt b_a0 (.cells ((([selfP b_a0 a0_v_addr, .slice A_a0_v_buf a0_v_buf.length c_a0_v_buf] : List Value))).toArray 113 (0, 0))) (star (ownS 5 (cI .u8) 1 A_a0_v_buf c_a0_v_buf a0_v_buf) A))) (r : (Int × Dyn115 × Bool × (List Int))) (h0 : strings_Builder_WriteRune a0_v_addr a0_v_buf a1 = some r) :
    Calls prog 65 #[.pointer (some ⟨b_a0, 0, none⟩), .int .i32 a1] w (fun e w' => ∃ (A1 : Option Addr) (c1 : Nat), e = .returned (.tuple #[.int .i64 r.1, dynV115 r.2.1]) ∧ Inv w0 Z w' (star (pt b_a0 (.cells ((([selfP b_a0 r.2.2.1, .slice A1 r.2.2.2.length c1] : List Value))).toArray 113 (0, 0))) (star (ownS 5 (cI .u8) 1 A1 c1 r.2.2.2) A))) := by
  have e4 := calls_intro (R := (fun e w' => ∃ (A1 : Option Addr) (c1 : Nat), e = .returned (.tuple #[.int .i64 r.1, dynV115 r.2.1]) ∧ Inv w0 Z w' (star (pt b_a0 (.cells ((([selfP b_a0 r.2.2.1, .slice A1 r.2.2.2.length c1] : List Value))).toArray 113 (0, 0))) (star (ownS 5 (cI .u8) 1 A1 c1 r.2.2.2) A)))) (w := w) (args := [.pointer (some ⟨b_a0, 0, none⟩), .int .i32 a1]) (fn := Go.Proofs.Try.f65) 30 Go.Proofs.Try.func65 (by rfl) Go.Proofs.Try.ntmps65 (by kernel_rfl)
  refine e4 ?_
  clear e4
  unfold strings_Builder_WriteRune at h0
  refine CodT.seq ?_
  refine CodT.regionL [0, 1] (by kernel_rfl) ?_
  refine OpsT.pures (r := []) [0, 1] [0, 1] (S' := [(0, .pointer (some ⟨b_a0, 0, none⟩)), (1, .int .i32 a1)]) (by kernel_rfl) ?_
  refine OpsT.done ?_
  refine Qn.then ?_
  refine CodT.seq ?_
  refine CodT.regionL [0, 1] (by kernel_rfl) ?_
  refine OpsT.pures (r := [1]) [0] [0, 1, 7] (S' := [(0, .pointer (some ⟨b_a0, 0, none⟩)), (1, .int .i32 a1), (7, .pointer (some ⟨b_a0, 0, none⟩))]) (by kernel_rfl) ?_
  have hI := hI.mono (pick2 _ _ _)
  have hI := hI.mono (pick2 _ _ _)
  obtain ⟨⟨y2, y3⟩, hc1, h0⟩ := bindS h0
  try dsimp only at h0
  refine OpsT.cons (Does.call (d := some 8) (n := 69) (vs := [.pointer (some ⟨b_a0, 0, none⟩)]) (by kernel_rfl) en69 (c69 w0 w _ _ hT b_a0 a0_v_addr A_a0_v_buf c_a0_v_buf a0_v_buf hI _ hc1) ?_)
  rintro e w ⟨A4, cp5, rfl, hI⟩
  refine ⟨_, rfl, ?_⟩
  refine OpsT.done ?_
  refine Qn.then ?_
  refine CodT.seq ?_
  refine CodT.regionL [0, 1, 2, 3, 4, 5] (by kernel_rfl) ?_
  refine OpsT.pures (r := [3, 4, 5]) [0, 1, 2] [0, 1, 11] (S' := [(0, .pointer (some ⟨b_a0, 0, none⟩)), (1, .int .i32 a1), (11, .pointer (some ⟨b_a0, 1, none⟩))]) (by kernel_rfl) ?_
  refine OpsT.cons (Does.yi (Yl.load (d := 12) (T := 37) (v := .slice A4 y3.length cp5) (by kernel_rfl) (ldB ty37 (l := (([selfP b_a0 y2, .slice A4 y3.length cp5] : List Value))) (o := 1) (v := .slice A4 y3.length cp5) (ent_refl _) (by kernel_rfl))) hI ?_)
  refine OpsT.pures (r := []) [4, 5] [0, 1, 6] (S' := [(0, .pointer (some ⟨b_a0, 0, none⟩)), (1, .int .i32 a1), (6, .int .i64 (y3.length : Int))]) (by kernel_rfl) ?_
  refine OpsT.done ?_
  refine Qn.then ?_
  refine CodT.seq ?_
  refine CodT.regionL [0, 1, 2, 3, 4, 5, 6, 7, 8, 9] (by kernel_rfl) ?_
  refine OpsT.pures (r := [4, 5, 6, 7, 8, 9]) [0, 1, 2, 3] [0, 1, 6, 14, 17] (S' := [(0, .pointer (some ⟨b_a0, 0, none⟩)), (1, .int .i32 a1), (6, .int .i64 (y3.length : Int)), (14, .pointer (some ⟨b_a0, 0, none⟩)), (17, .pointer (some ⟨b_a0, 1, none⟩))]) (by kernel_rfl) ?_
  refine OpsT.cons (Does.yi (Yl.load (d := 18) (T := 37) (v := .slice A4 y3.length cp5) (by kernel_rfl) (ldB ty37 (l := (([selfP b_a0 y2, .slice A4 y3.length cp5] : List Value))) (o := 1) (v := .slice A4 y3.length cp5) (ent_refl _) (by kernel_rfl))) hI ?_)
  refine OpsT.pures (r := [6, 7, 8, 9]) [5] [0, 6, 14, 18, 19] (S' := [(0, .pointer (some ⟨b_a0, 0, none⟩)), (6, .int .i64 (y3.length : Int)), (14, .pointer (some ⟨b_a0, 0, none⟩)), (18, .slice A4 y3.length cp5), (19, .int .i32 a1)]) (by kernel_rfl) ?_
  have hI := hI.mono (pick2 _ _ _)
  obtain ⟨y7, hc6, h0⟩ := bindS h0
  try dsimp only at h0
  refine OpsT.cons (Does.call (d := some 20) (n := 70) (vs := [.slice A4 y3.length cp5, .int .i32 a1]) (by kernel_rfl) en70 (c70 w0 w _ _ hT A4 cp5 y3 a1 hI _ hc6) ?_)
  rintro e w ⟨A8, cp9, rfl, hI⟩
  refine ⟨_, rfl, ?_⟩
  refine OpsT.pures (r := [9]) [7, 8] [0, 6, 20, 22] (S' := [(0, .pointer (some ⟨b_a0, 0, none⟩)), (6, .int .i64 (y3.length : Int)), (20, .slice A8 y7.length cp9), (22, .pointer (some ⟨b_a0, 1, none⟩))]) (by kernel_rfl) ?_
  have hI := hI.mono (pick2 _ _ _)
  refine OpsT.cons (Does.storeLit (T := 37) (b := b_a0) (o := 1) (v := .slice A8 y7.length cp9) (l := (([selfP b_a0 y2, .slice A4 y3.length cp5] : List Value))) (vs := ([.slice A8 y7.length cp9] : List Value)) (L' := (([selfP b_a0 y2, .slice A8 y7.length cp9] : List Value))) (by kernel_rfl) ty37 hI (by kernel_rfl) (by kernel_rfl) (by kernel_rfl) (by kernel_rfl) (by kernel_rfl) ?_)
  intro w hI
  refine OpsT.done ?_
  refine Qn.then ?_
  refine CodT.seq ?_
  refine CodT.regionL [0, 1, 2, 3, 4, 5, 6, 7, 8] (by kernel_rfl) ?_
  refine OpsT.pures (r := [3, 4, 5, 6, 7, 8]) [0, 1, 2] [6, 25] (S' := [(6, .int .i64 (y3.length : Int)), (25, .pointer (some ⟨b_a0, 1, none⟩))]) (by kernel_rfl) ?_
  refine OpsT.cons (Does.yi (Yl.load (d := 26) (T := 37) (v := .slice A8 y7.length cp9) (by kernel_rfl) (ldB ty37 (l := (([selfP b_a0 y2, .slice A8 y7.length cp9] : List Value))) (o := 1) (v := .slice A8 y7.length cp9) (ent_refl _) (by kernel_rfl))) hI ?_)
  refine OpsT.pures (r := []) [4, 5, 6, 7, 8] [4, 5] (S' := [(4, .int .i64 (wi64 ((y7.length : Int) - (y3.length : Int)))), (5, .nilIface)]) (by kernel_rfl) ?_
  refine OpsT.done ?_
  refine Qn.then ?_
  refine CodT.ret ?_
  have e := someS h0
  subst e
  refine Qn.keep [4, 5] (S' := [(4, .int .i64 (wi64 ((y7.length : Int) - (y3.length : Int)))), (5, .nilIface)]) (by kernel_rfl) ?_
  exact post_ret (v := .tuple #[.int .i64 (wi64 ((y7.length : Int) - (y3.length : Int))), .nilIface]) (fun a ha => RunRes.run (vs := [.int .i64 (wi64 ((y7.length : Int) - (y3.length : Int))), .nilIface]) (.tmp (t := 4) (by kernel_rfl) (.tmp (t := 5) (by kernel_rfl) .nil)) ha (by kernel_rfl)) ⟨A8, cp9, rfl, hI⟩
set_option maxRecDepth 100000 in
set_option maxHeartbeats 4000000 in
/-- (*strings.Builder).Write -/
theorem c66 (w0 w : World) (Z : Hp) (A : HP)  (hT : Tabs Z) (b_a0 : Nat) (a0_v_addr : Bool) (A_a0_v_buf : Option Addr) (c_a0_v_buf : Nat) (a0_v_buf : (List Int)) (A_a1 : Option Addr) (c_a1 : Nat) (a1 : (List Int)) (hr_a1 : RdS Z (cI .u8) 1 A_a1 c_a1 a1) (hI : Inv w0 Z w (star (pt b_a0 (.cells ((([selfP b_a0 a0_v_addr, .slice A_a0_v_buf a0_v_buf.length c_a0_v_buf] : List Value))).toArray 113 (0, 0))) (star (ownS 5 (cI .u8) 1 A_a0_v_buf c_a0_v_buf a0_v_buf) A))) (r : (Int × Dyn115 × Bool × (List Int))) (h0 : strings_Builder_Write a0_v_addr a0_v_buf a1 = some r) :
    Calls prog 66 #[.pointer (some ⟨b_a0, 0, none⟩), .slice A_a1 a1.length c_a1] w (fun e w' => ∃ (A1 : Option Addr) (c1 : Nat), e = .returned (.tuple #[.int .i64 r.1, dynV115 r.2.1]) ∧ Inv w0 Z w' (star (pt b_a0 (.cells ((([selfP b_a0 r.2.2.1, .slice A1 r.2.2.2.length c1] : List Value))).toArray 113 (0, 0))) (star (ownS 5 (cI .u8) 1 A1 c1 r.2.2.2) A))) := by
  have e4 := calls_intro (R := (fun e w' => ∃ (A1 : Option Addr) (c1 : Nat), e = .returned (.tuple #[.int .i64 r.1, dynV115 r.2.1]) ∧ Inv w0 Z w' (star (pt b_a0 (.cells ((([selfP b_a0 r.2.2.1, .slice A1 r.2.2.2.length c1] : List Value))).toArray 113 (0, 0))) (star (ownS 5 (cI .u8) 1 A1 c1 r.2.2.2) A)))) (w := w) (args := [.pointer (some ⟨b_a0, 0, none⟩), .slice A_a1 a1.length c_a1]) (fn := Go.Proofs.Try.f66) 19 Go.Proofs.Try.func66 (by rfl) Go.Proofs.Try.ntmps66 (by kernel_rfl)
  refine e4 ?_
  clear e4
  unfold strings_Builder_Write at h0
  refine CodT.seq ?_
  refine CodT.regionL [0, 1] (by kernel_rfl) ?_
  refine OpsT.pures (r := []) [0, 1] [0, 1] (S' := [(0, .pointer (some ⟨b_a0, 0, none⟩)), (1, .slice A_a1 a1.length c_a1)]) (by kernel_rfl) ?_
  refine OpsT.done ?_
  refine Qn.then ?_
  refine CodT.seq ?_
  refine CodT.regionL [0, 1] (by kernel_rfl) ?_
  refine OpsT.pures (r := [1]) [0] [0, 1, 6] (S' := [(0, .pointer (some ⟨b_a0, 0, none⟩)), (1, .slice A_a1 a1.length c_a1), (6, .pointer (some ⟨b_a0, 0, none⟩))]) (by kernel_rfl) ?_
  have hI := hI.mono (pick2 _ _ _)
  have hI := hI.mono (pick2 _ _ _)
  obtain ⟨⟨y2, y3⟩, hc1, h0⟩ := bindS h0
  try dsimp only at h0
  refine OpsT.cons (Does.call (d := some 7) (n := 69) (vs := [.pointer (some ⟨b_a0, 0, none⟩)]) (by kernel_rfl) en69 (c69 w0 w _ _ hT b_a0 a0_v_addr A_a0_v_buf c_a0_v_buf a0_v_buf hI _ hc1) ?_)
  rintro e w ⟨A4, cp5, rfl, hI⟩
  refine ⟨_, rfl, ?_⟩
  refine OpsT.done ?_
  refine Qn.then ?_
  refine CodT.seq ?_
  refine CodT.regionL [0, 1, 2, 3, 4, 5, 6, 7, 8, 9] (by kernel_rfl) ?_
  refine OpsT.pures (r := [4, 5, 6, 7, 8, 9]) [0, 1, 2, 3] [1, 8, 11] (S' := [(1, .slice A_a1 a1.length c_a1), (8, .pointer (some ⟨b_a0, 0, none⟩)), (11, .pointer (some ⟨b_a0, 1, none⟩))]) (by kernel_rfl) ?_
  refine OpsT.cons (Does.yi (Yl.load (d := 12) (T := 37) (v := .slice A4 y3.length cp5) (by kernel_rfl) (ldB ty37 (l := (([selfP b_a0 y2, .slice A4 y3.length cp5] : List Value))) (o := 1) (v := .slice A4 y3.length cp5) (ent_refl _) (by kernel_rfl))) hI ?_)
  refine OpsT.pures (r := [6, 7, 8, 9]) [5] [1, 8, 12, 13] (S' := [(1, .slice A_a1 a1.length c_a1), (8, .pointer (some ⟨b_a0, 0, none⟩)), (12, .slice A4 y3.length cp5), (13, .slice A_a1 a1.length c_a1)]) (by kernel_rfl) ?_
  obtain ⟨hg6, h0⟩ := guardS h0
  have hI := hI.mono (pick2 _ _ _)
  refine OpsT.cons (Does.append (d := 14) (t := 37) (tx := 37) (ty := 37) (ys := y3) (zs := a1) (x := .slice A_a1 a1.length c_a1) (by kernel_rfl) Go.Proofs.Try.underlying37 ty5 (by kernel_rfl) hI (src_rd Go.Proofs.Try.underlying37 hI hr_a1 (one_flat _ (fun _ => rfl))) hr_a1.2.2.1 (by unfold LIM at hg6; omega) hg6 ?_)
  intro A7 cp8 w hI
  refine OpsT.pures (r := [9]) [7, 8] [1, 14, 16] (S' := [(1, .slice A_a1 a1.length c_a1), (14, .slice A7 ((y3 ++ a1).length) cp8), (16, .pointer (some ⟨b_a0, 1, none⟩))]) (by kernel_rfl) ?_
  have hI := hI.mono (pick2 _ _ _)
  refine OpsT.cons (Does.storeLit (T := 37) (b := b_a0) (o := 1) (v := .slice A7 ((y3 ++ a1).length) cp8) (l := (([selfP b_a0 y2, .slice A4 y3.length cp5] : List Value))) (vs := ([.slice A7 ((y3 ++ a1).length) cp8] : List Value)) (L' := (([selfP b_a0 y2, .slice A7 ((y3 ++ a1).length) cp8] : List Value))) (by kernel_rfl) ty37 hI (by kernel_rfl) (by kernel_rfl) (by kernel_rfl) (by kernel_rfl) (by kernel_rfl) ?_)
  intro w hI
  refine OpsT.done ?_
  refine Qn.then ?_
  refine CodT.seq ?_
  refine CodT.regionL [0, 1, 2, 3] (by kernel_rfl) ?_
  refine OpsT.pures (r := []) [0, 1, 2, 3] [4, 5] (S' := [(4, .int .i64 (a1.length : Int)), (5, .nilIface)]) (by kernel_rfl) ?_
  refine OpsT.done ?_
  refine Qn.then ?_
  refine CodT.ret ?_
  have e := someS h0
  subst e
  refine Qn.keep [4, 5] (S' := [(4, .int .i64 (a1.length : Int)), (5, .nilIface)]) (by kernel_rfl) ?_
  exact post_ret (v := .tuple #[.int .i64 (a1.length : Int), .nilIface]) (fun a ha => RunRes.run (vs := [.int .i64 (a1.length : Int), .nilIface]) (.tmp (t := 4) (by kernel_rfl) (.tmp (t := 5) (by kernel_rfl) .nil)) ha (by kernel_rfl)) ⟨A7, cp8, rfl, hI⟩
set_option maxRecDepth 100000 in
set_option maxHeartbeats 4000000 in
/-- cenotaph/name.broken -/
theorem c67 (w0 w : World) (Z : Hp) (A : HP) (hI : Inv w0 Z w A) (hT : Tabs Z) (a0 : ByteArray) (a1 : Int) (a2 : Int) (r : Bool) (h0 : name_broken a0 a1 a2 = some r) :
    Calls prog 67 #[.string a0, .int .i64 a1, .int .i32 a2] w (fun e w' => e = .returned (.bool r) ∧ Inv w0 Z w' A) := by
  have e4 := calls_intro (R := (fun e w' => e = .returned (.bool r) ∧ Inv w0 Z w' A)) (w := w) (args := [.string a0, .int .i64 a1, .int .i32 a2]) (fn := Go.Proofs.Try.f67) 20 Go.Proofs.Try.func67 (by rfl) Go.Proofs.Try.ntmps67 (by kernel_rfl)
  refine e4 ?_
  clear e4
  unfold name_broken at h0
  refine CodT.seq ?_
  refine CodT.regionL [0] (by kernel_rfl) ?_
  refine OpsT.pures (r := []) [0] [0, 1, 2] (S' := [(0, .string a0), (1, .int .i64 a1), (2, .int .i32 a2)]) (by kernel_rfl) ?_
  refine OpsT.done ?_
  refine Qn.then ?_
  refine CodT.seq ?_
  refine CodT.seq ?_
  refine CodT.regionL [0, 1] (by kernel_rfl) ?_
  refine OpsT.pures (r := []) [0, 1] [0, 1, 10] (S' := [(0, .string a0), (1, .int .i64 a1), (10, .bool (a2 != 65533))]) (by kernel_rfl) ?_
  refine OpsT.done ?_
  refine Qn.then ?_
  by_cases hb1 : (a2 != 65533) = true
  · rw [if_pos hb1] at h0
    refine CodT.yes' (b := a2 != 65533) (by kernel_rfl) hb1 ?_
    refine CodT.seq ?_
    refine CodT.regionL [0] (by kernel_rfl) ?_
    refine OpsT.pures (r := []) [0] [6] (S' := [(6, .bool false)]) (by kernel_rfl) ?_
    refine OpsT.done ?_
    refine Qn.then ?_
    refine CodT.ret ?_
    refine Qn.ret_then ?_
    have e := someS h0
    subst e
    refine Qn.keep [6] (S' := [(6, .bool false)]) (by kernel_rfl) ?_
    exact post_ret (v := .bool false) (fun a ha => RunRes.run (vs := [.bool false]) (.tmp (t := 6) (by kernel_rfl) .nil) ha (by kernel_rfl)) ⟨rfl, hI⟩
  · rw [if_neg hb1] at h0
    refine CodT.no' (b := a2 != 65533) (by kernel_rfl) (by simpa using hb1) ?_
    refine CodT.skip ?_
    refine Qn.then ?_
    refine CodT.seq ?_
    refine CodT.regionL [0, 1, 2, 3, 4, 5, 6, 7, 8] (by kernel_rfl) ?_
    refine OpsT.pures (r := [2, 3, 4, 5, 6, 7, 8]) [0, 1] [12, 13] (S' := [(12, .string a0), (13, .int .i64 a1)]) (by kernel_rfl) ?_
    obtain ⟨hg2, h0⟩ := guardS h0
    refine OpsT.cons (Does.yi (Yl.sliceStr10 (d := 14) (T := 9) (s := a0) (lo := a1) (by kernel_rfl) Go.Proofs.Try.underlying9 hg2) hI ?_)
    cases h0
set_option maxRecDepth 100000 in
set_option maxHeartbeats 4000000 in
/-- (*strings.Builder).String -/
theorem c68 (w0 w : World) (Z : Hp) (A : HP)  (hT : Tabs Z) (b_a0 : Nat) (a0_v_addr : Bool) (A_a0_v_buf : Option Addr) (c_a0_v_buf : Nat) (a0_v_buf : (List Int)) (hI : Inv w0 Z w (star (pt b_a0 (.cells ((([selfP b_a0 a0_v_addr, .slice A_a0_v_buf a0_v_buf.length c_a0_v_buf] : List Value))).toArray 113 (0, 0))) (star (ownS 5 (cI .u8) 1 A_a0_v_buf c_a0_v_buf a0_v_buf) A))) (r : (ByteArray × Bool × (List Int))) (h0 : strings_Builder_String a0_v_addr a0_v_buf = some r) :
    Calls prog 68 #[.pointer (some ⟨b_a0, 0, none⟩)] w (fun e w' => ∃ (A1 : Option Addr) (c1 : Nat) (Z' : Hp), Z.le Z' ∧ e = .returned (.string r.1) ∧ RdS Z' (cI .u8) 1 A1 c1 r.2.2 ∧ Inv w0 Z' w' (star (pt b_a0 (.cells ((([selfP b_a0 r.2.1, .slice A1 r.2.2.length c1] : List Value))).toArray 113 (0, 0))) A)) := by
  have e4 := calls_intro (R := (fun e w' => ∃ (A1 : Option Addr) (c1 : Nat) (Z' : Hp), Z.le Z' ∧ e = .returned (.string r.1) ∧ RdS Z' (cI .u8) 1 A1 c1 r.2.2 ∧ Inv w0 Z' w' (star (pt b_a0 (.cells ((([selfP b_a0 r.2.1, .slice A1 r.2.2.length c1] : List Value))).toArray 113 (0, 0))) A))) (w := w) (args := [.pointer (some ⟨b_a0, 0, none⟩)]) (fn := Go.Proofs.Try.f68) 14 Go.Proofs.Try.func68 (by rfl) Go.Proofs.Try.ntmps68 (by kernel_rfl)
  refine e4 ?_
  clear e4
  unfold strings_Builder_String at h0
  refine CodT.seq ?_
  refine CodT.regionL [0] (by kernel_rfl) ?_
  refine OpsT.pures (r := []) [0] [0] (S' := [(0, .pointer (some ⟨b_a0, 0, none⟩))]) (by kernel_rfl) ?_
  refine OpsT.done ?_
  refine Qn.then ?_
  refine CodT.seq ?_
  refine CodT.drawI (n := 12) [10] (by kernel_rfl) (by kernel_rfl) hI ?_
  intro w hI
  refine GmT.p' 0 3 (.pointer (some ⟨b_a0, 0, none⟩)) (by kernel_rfl) (by kernel_rfl) ?_
  refine GmT.p' 1 4 (.pointer (some ⟨b_a0, 0, none⟩)) (by kernel_rfl) (by kernel_rfl) ?_
  refine GmT.p' 2 5 (.pointer (some ⟨b_a0, 1, none⟩)) (by kernel_rfl) (by kernel_rfl) ?_
  refine GmT.p' 5 8 (.pointer (some ⟨b_a0, 0, none⟩)) (by kernel_rfl) (by kernel_rfl) ?_
  refine GmT.p' 6 9 (.pointer (some ⟨b_a0, 0, none⟩)) (by kernel_rfl) (by kernel_rfl) ?_
  refine GmT.p' 7 10 (.pointer (some ⟨b_a0, 1, none⟩)) (by kernel_rfl) (by kernel_rfl) ?_
  refine GmT.r (i := 3) 3 (by kernel_rfl) (by kernel_rfl) (Yl.load (d := 6) (T := 37) (v := .slice A_a0_v_buf a0_v_buf.length c_a0_v_buf) (by kernel_rfl) (ldB ty37 (l := (([selfP b_a0 a0_v_addr, .slice A_a0_v_buf a0_v_buf.length c_a0_v_buf] : List Value))) (o := 1) (v := .slice A_a0_v_buf a0_v_buf.length c_a0_v_buf) (ent_refl _) (by kernel_rfl))) hI ?_
  refine GmT.r (i := 8) 3 (by kernel_rfl) (by kernel_rfl) (Yl.load (d := 11) (T := 37) (v := .slice A_a0_v_buf a0_v_buf.length c_a0_v_buf) (by kernel_rfl) (ldB ty37 (l := (([selfP b_a0 a0_v_addr, .slice A_a0_v_buf a0_v_buf.length c_a0_v_buf] : List Value))) (o := 1) (v := .slice A_a0_v_buf a0_v_buf.length c_a0_v_buf) (ent_refl _) (by kernel_rfl))) hI ?_
  refine GmT.p' 9 12 (.int .i64 (a0_v_buf.length : Int)) (by kernel_rfl) (by kernel_rfl) ?_
  have hI := hI.mono (pick2 _ _ _)
  refine GmT.o (i := 4) (by kernel_rfl) (Does.sliceData (d := 7) (t := 37) (ty := 90) (ys := a0_v_buf) (by kernel_rfl) Go.Proofs.Try.underlying90 hI ?_)
  intro q1 w hq2 hI
  have hC := hI
  have hC := hC.mono (pick2 _ _ _)
  refine ⟨fun _ _ => hC, ?_⟩
  obtain ⟨hg3, h0⟩ := guardS h0
  refine GmT.o (i := 10) (by kernel_rfl) (Does.unsafeStr (e := 0) (d := 13) (t := 90) (it := 3) (ty := 9) (xs := a0_v_buf) (by kernel_rfl) Go.Proofs.Try.underlying90 (by kernel_rfl) hq2 (bytesOk_spec hg3) hI ?_)
  intro Z4 w hle5 hr6 hI
  refine ⟨fun h => absurd h (by decide), ?_⟩
  refine GmT.p' 11 2 (.string (strOfNums a0_v_buf)) (by kernel_rfl) (by kernel_rfl) ?_
  refine GmT.done (by kernel_rfl) ?_
  refine Qn.then ?_
  refine CodT.ret ?_
  have e := someS h0
  subst e
  refine Qn.keep [2] (S' := [(2, .string (strOfNums a0_v_buf))]) (by kernel_rfl) ?_
  exact post_ret (v := .string (strOfNums a0_v_buf)) (fun a ha => RunRes.run (vs := [.string (strOfNums a0_v_buf)]) (.tmp (t := 2) (by kernel_rfl) .nil) ha (by kernel_rfl)) ⟨A_a0_v_buf, c_a0_v_buf, Z4, hle5, rfl, hr6, hI⟩
set_option maxRecDepth 100000 in
set_option maxHeartbeats 4000000 in
/-- cenotaph/name.Quote -/
theorem c63 (w0 w : World) (Z : Hp) (A : HP) (hI : Inv w0 Z w A) (hT : Tabs Z) (a0 : ByteArray) (r : ByteArray) (h0 : name_Quote a0 = some r) :
    Calls prog 63 #[.string a0] w (fun e w' => e = .returned (.string r) ∧ Inv w0 Z w' A) := by
  have e4 := calls_intro (R := (fun e w' => e = .returned (.string r) ∧ Inv w0 Z w' A)) (w := w) (args := [.string a0]) (fn := Go.Proofs.Try.f63) 57 Go.Proofs.Try.func63 (by rfl) Go.Proofs.Try.ntmps63 (by kernel_rfl)
  refine e4 ?_
  clear e4
  unfold name_Quote at h0
  refine CodT.seq ?_
  refine CodT.regionL [0] (by kernel_rfl) ?_
  refine OpsT.pures (r := []) [0] [0] (S' := [(0, .string a0)]) (by kernel_rfl) ?_
  refine OpsT.done ?_
  refine Qn.then ?_
  refine CodT.seq ?_
  refine CodT.regionL [0] (by kernel_rfl) ?_
  refine OpsT.cons (Does.allocL (d := 3) (T := 113) [selfP 0 false, .slice none 0 0] (by kernel_rfl) ty113 hI (by kernel_rfl) ?_)
  intro b1 w hI
  replace hI := hI.eqA (A' := (star (pt b1 (.cells ((([selfP b1 false, .slice none 0 0] : List Value))).toArray 113 (0, 0))) A)) rfl
  refine OpsT.done ?_
  refine Qn.then ?_
  refine CodT.seq ?_
  refine CodT.regionL [0] (by kernel_rfl) ?_
  have hI := ownS_nil (α := Int) hI 5 (cI .u8) 1
  have hI := hI.mono (pick2 _ _ _)
  obtain ⟨⟨y3, y4, y5⟩, hc2, h0⟩ := bindS h0
  try dsimp only at h0
  refine OpsT.cons (Does.call (d := some 6) (n := 64) (vs := [.pointer (some ⟨b1, 0, none⟩), .int .u8 34]) (by kernel_rfl) en64 (c64 w0 w _ _ hT b1 false none 0 ([] : List Int) 34 hI _ hc2) ?_)
  rintro e w ⟨A6, cp7, rfl, hI⟩
  refine ⟨_, rfl, ?_⟩
  refine OpsT.done ?_
  refine Qn.then ?_
  refine CodT.seq ?_
  refine CodT.seq ?_
  refine CodT.regionL [0, 1] (by kernel_rfl) ?_
  refine OpsT.pures (r := [1]) [0] [0, 3, 7] (S' := [(0, .string a0), (3, .pointer (some ⟨b1, 0, none⟩)), (7, .string a0)]) (by kernel_rfl) ?_
  refine OpsT.cons (Does.rangeStr (d := 8) (T := 9) (s := a0) (by kernel_rfl) Go.Proofs.Try.underlying9 hI ?_)
  intro b8 w hI
  refine OpsT.done ?_
  refine Qn.then ?_
  obtain ⟨r1, h1, h0⟩ := bindS h0
  refine CodT.meet1 (fun a w => ∃ (x11 : Bool) (x12 : (List Int)) (Z9 : Hp) (A13 : Option Addr) (cp14 : Nat), (x11, x12) = r1 ∧ Fr 57 [(3, .pointer (some ⟨b1, 0, none⟩))] a ∧ Inv w0 Z9 w (star (ownS 5 (cI .u8) 1 A13 cp14 x12) (star (pt b1 (.cells ((([selfP b1 x11, .slice A13 x12.length cp14] : List Value))).toArray 113 (0, 0))) A)) ∧ Z.le Z9) ?_ ?_
  ·
    refine CodT.block ?_
    have hI := hI.mono (pick2 _ _ _)
    have hI := hI.mono (pick3 _ _ _ _)
    have hI := hI.mono (pick3 _ _ _ _)
    refine (fun a ha => wp_loopN (fun k a w => ∃ (x17 : Nat) (x18 : Bool) (x19 : (List Int)) (Z15 : Hp) (A20 : Option Addr) (cp21 : Nat), name_Quote.l0 a0 k x17 x18 x19 = some r1 ∧ Fr 57 [(0, .string a0), (3, .pointer (some ⟨b1, 0, none⟩)), (8, .pointer (some ⟨b8, 0, none⟩))] a ∧ Inv w0 Z15 w (star (pt b8 (.stringIter a0 x17)) (star (ownS 5 (cI .u8) 1 A20 cp21 x19) (star (pt b1 (.cells ((([selfP b1 x18, .slice A20 x19.length cp21] : List Value))).toArray 113 (0, 0))) A))) ∧ Z.le Z15) ?_ FU a w ⟨0, y4, y5, Z, A6, cp7, h1, ha.keep [0, 3, 8] (by kernel_rfl), hI, (Hp.le_refl _)⟩)
    clear h1 hI
    rintro k a w ⟨x17, x18, x19, Z15, A20, cp21, h1, ha, hI, hle16⟩
    rcases k with _ | k
    · cases h1
    simp only [name_Quote.l0] at h1
    refine CodT.of ?_ ha
    refine CodT.seq ?_
    refine CodT.regionL [0, 1] (by kernel_rfl) ?_
    by_cases hb22 : x17 < a0.size
    · rw [if_pos hb22] at h1
      refine OpsT.cons (Does.nextStr (d := 9) (b := b8) (pos := x17) (s := a0) (by kernel_rfl) hI hb22 ?_)
      intro w hI
      refine OpsT.pures (r := []) [1] [0, 3, 8, 9, 10] (S' := [(0, .string a0), (3, .pointer (some ⟨b1, 0, none⟩)), (8, .pointer (some ⟨b8, 0, none⟩)), (9, .tuple #[.bool true, .int .i64 (x17 : Int), .int .i32 (runeAt a0 x17)]), (10, .bool true)]) (by kernel_rfl) ?_
      refine OpsT.done ?_
      refine Qn.then ?_
      refine CodT.seq ?_
      refine CodT.yes (by kernel_rfl) ?_
      refine CodT.skip ?_
      refine Qn.then ?_
      refine CodT.block ?_
      refine CodT.seq ?_
      refine CodT.regionL [0, 1, 2, 3] (by kernel_rfl) ?_
      refine OpsT.pures (r := []) [0, 1, 2, 3] [0, 3, 4, 5, 8] (S' := [(0, .string a0), (3, .pointer (some ⟨b1, 0, none⟩)), (4, .int .i64 (x17 : Int)), (5, .int .i32 (runeAt a0 x17)), (8, .pointer (some ⟨b8, 0, none⟩))]) (by kernel_rfl) ?_
      refine OpsT.done ?_
      refine Qn.then ?_
      refine CodT.block ?_
      obtain ⟨r2, h2, h1⟩ := bindS h1
      refine CodT.meet (fun a w => ∃ (x23 : Bool), x23 = r2 ∧ Fr 57 [(0, .string a0), (3, .pointer (some ⟨b1, 0, none⟩)), (4, .int .i64 (x17 : Int)), (5, .int .i32 (runeAt a0 x17)), (8, .pointer (some ⟨b8, 0, none⟩)), (15, .bool x23)] a ∧ Inv w0 Z15 w (star (pt b8 (.stringIter a0 (x17 + runeW a0 x17))) (star (pt b1 (.cells ((([selfP b1 x18, .slice A20 x19.length cp21] : List Value))).toArray 113 (0, 0))) (star (ownS 5 (cI .u8) 1 A20 cp21 x19) A)))) ?_ ?_
      ·
        refine CodT.regionL [0, 1, 2, 3, 4, 5, 6] (by kernel_rfl) ?_
        refine OpsT.pures (r := [3, 4, 5, 6]) [0, 1, 2] [0, 3, 4, 5, 8, 18] (S' := [(0, .string a0), (3, .pointer (some ⟨b1, 0, none⟩)), (4, .int .i64 (x17 : Int)), (5, .int .i32 (runeAt a0 x17)), (8, .pointer (some ⟨b8, 0, none⟩)), (18, .bool ((runeAt a0 x17) == 34))]) (by kernel_rfl) ?_
        by_cases hb24 : ((runeAt a0 x17) == 34) = true
        · rw [if_pos hb24] at h2
          refine OpsT.keep [0, 3, 4, 5, 8, 18] (S' := [(0, .string a0), (3, .pointer (some ⟨b1, 0, none⟩)), (4, .int .i64 (x17 : Int)), (5, .int .i32 (runeAt a0 x17)), (8, .pointer (some ⟨b8, 0, none⟩)), (18, .bool true)]) (by (try simp only [hb24]); kernel_rfl) ?_
          refine OpsT.pures (r := []) [3, 4, 5, 6] [0, 3, 4, 5, 8, 15] (S' := [(0, .string a0), (3, .pointer (some ⟨b1, 0, none⟩)), (4, .int .i64 (x17 : Int)), (5, .int .i32 (runeAt a0 x17)), (8, .pointer (some ⟨b8, 0, none⟩)), (15, .bool true)]) (by kernel_rfl) ?_
          refine OpsT.done ?_
          have hI := hI.mono (pick2 _ _ _)
          have hI := hI.mono (pick3 _ _ _ _)
          have hI := hI.mono (pick3 _ _ _ _)
          have e := someS h2
          subst e
          exact Qn.thenJ fun a ha => ⟨true, rfl, ha.keep [0, 3, 4, 5, 8, 15] (by kernel_rfl), hI⟩
        · rw [if_neg hb24] at h2
          have hb24 : ((runeAt a0 x17) == 34) = false := by simpa using hb24
          refine OpsT.keep [0, 3, 4, 5, 8, 18] (S' := [(0, .string a0), (3, .pointer (some ⟨b1, 0, none⟩)), (4, .int .i64 (x17 : Int)), (5, .int .i32 (runeAt a0 x17)), (8, .pointer (some ⟨b8, 0, none⟩)), (18, .bool false)]) (by (try simp only [hb24]); kernel_rfl) ?_
          refine OpsT.pures (r := []) [3, 4, 5, 6] [0, 3, 4, 5, 8, 15] (S' := [(0, .string a0), (3, .pointer (some ⟨b1, 0, none⟩)), (4, .int .i64 (x17 : Int)), (5, .int .i32 (runeAt a0 x17)), (8, .pointer (some ⟨b8, 0, none⟩)), (15, .bool ((runeAt a0 x17) == 92))]) (by kernel_rfl) ?_
          refine OpsT.done ?_
          have hI := hI.mono (pick2 _ _ _)
          have hI := hI.mono (pick3 _ _ _ _)
          have hI := hI.mono (pick3 _ _ _ _)
          have e := someS h2
          subst e
          exact Qn.thenJ fun a ha => ⟨(runeAt a0 x17) == 92, rfl, ha.keep [0, 3, 4, 5, 8, 15] (by kernel_rfl), hI⟩
      ·
        rintro a w ⟨x23, rfl, ha, hI⟩
        try dsimp only at h1
        refine CodT.of ?_ ha
        by_cases hb25 : x23 = true
        · rw [if_pos hb25] at h1
          refine CodT.yes' (b := x23) (by kernel_rfl) hb25 ?_
          refine CodT.seq ?_
          refine CodT.regionL [0] (by kernel_rfl) ?_
          have hI := hI.mono (pick3 _ _ _ _)
          have hI := hI.mono (pick3 _ _ _ _)
          obtain ⟨⟨y27, y28, y29⟩, hc26, h1⟩ := bindS h1
          try dsimp only at h1
          refine OpsT.cons (Does.call (d := some 22) (n := 64) (vs := [.pointer (some ⟨b1, 0, none⟩), .int .u8 92]) (by kernel_rfl) en64 (c64 w0 w _ _ (hT.mono hle16) b1 x18 A20 cp21 x19 92 hI _ hc26) ?_)
          rintro e w ⟨A30, cp31, rfl, hI⟩
          refine ⟨_, rfl, ?_⟩
          refine OpsT.done ?_
          refine Qn.then ?_
          refine CodT.regionL [0, 1] (by kernel_rfl) ?_
          refine OpsT.pures (r := [1]) [0] [0, 3, 8, 23] (S' := [(0, .string a0), (3, .pointer (some ⟨b1, 0, none⟩)), (8, .pointer (some ⟨b8, 0, none⟩)), (23, .int .i32 (runeAt a0 x17))]) (by kernel_rfl) ?_
          have hI := hI.mono (pick2 _ _ _)
          have hI := hI.mono (pick2 _ _ _)
          obtain ⟨⟨y33, y34, y35, y36⟩, hc32, h1⟩ := bindS h1
          try dsimp only at h1
          refine OpsT.cons (Does.call (d := some 24) (n := 65) (vs := [.pointer (some ⟨b1, 0, none⟩), .int .i32 (runeAt a0 x17)]) (by kernel_rfl) en65 (c65 w0 w _ _ (hT.mono hle16) b1 y28 A30 cp31 y29 (runeAt a0 x17) hI _ hc32) ?_)
          rintro e w ⟨A37, cp38, rfl, hI⟩
          refine ⟨_, rfl, ?_⟩
          refine OpsT.done ?_
          refine Qn.block_normal ?_
          refine Qn.block_normal ?_
          have hI := hI.mono (pick2 _ _ _)
          have hI := hI.mono (pick3 _ _ _ _)
          exact Qn.thenJ fun a ha => ⟨k, Nat.lt_succ_self k, x17 + runeW a0 x17, y35, y36, Z15, A37, cp38, h1, ha.keep [0, 3, 8] (by kernel_rfl), hI, hle16⟩
        · rw [if_neg hb25] at h1
          refine CodT.no' (b := x23) (by kernel_rfl) (by simpa using hb25) ?_
          refine CodT.seq ?_
          refine CodT.regionL [0, 1, 2] (by kernel_rfl) ?_
          refine OpsT.pures (r := []) [0, 1, 2] [0, 3, 4, 5, 8, 25] (S' := [(0, .string a0), (3, .pointer (some ⟨b1, 0, none⟩)), (4, .int .i64 (x17 : Int)), (5, .int .i32 (runeAt a0 x17)), (8, .pointer (some ⟨b8, 0, none⟩)), (25, .bool ((runeAt a0 x17) == 10))]) (by kernel_rfl) ?_
          refine OpsT.done ?_
          refine Qn.then ?_
          by_cases hb39 : ((runeAt a0 x17) == 10) = true
          · rw [if_pos hb39] at h1
            refine CodT.yes' (b := (runeAt a0 x17) == 10) (by kernel_rfl) hb39 ?_
            refine CodT.regionL [0, 1] (by kernel_rfl) ?_
            refine OpsT.cons (Does.buildSlice (en := (cI .u8)) (d := 28) (n := 2) (T := 37) (ps := [(0, .int .u8 92), (1, .int .u8 110)]) ([92, 110] : List Int) (by kernel_rfl) Go.Proofs.Try.underlying37 ty5 (by kernel_rfl) (by kernel_rfl) (by kernel_rfl) (by kernel_rfl) (len_all (fun _ => rfl)) hI ?_)
            intro b40 w hI
            obtain ⟨Z41, hle42, hr43, hI⟩ := ownS_freeze hI
            have hI := hI.mono (pick3 _ _ _ _)
            have hI := hI.mono (pick3 _ _ _ _)
            obtain ⟨⟨y45, y46, y47, y48⟩, hc44, h1⟩ := bindS h1
            try dsimp only at h1
            refine OpsT.cons (Does.call (d := some 29) (n := 66) (vs := [.pointer (some ⟨b1, 0, none⟩), .slice (some ⟨b40, 0, none⟩) (([92, 110] : List Int).length) 2]) (by kernel_rfl) en66 (c66 w0 w _ _ (hT.mono (Hp.le_trans hle16 hle42)) b1 x18 A20 cp21 x19 (some ⟨b40, 0, none⟩) 2 ([92, 110] : List Int) hr43 hI _ hc44) ?_)
            rintro e w ⟨A49, cp50, rfl, hI⟩
            refine ⟨_, rfl, ?_⟩
            refine OpsT.done ?_
            refine Qn.block_normal ?_
            refine Qn.block_normal ?_
            have hI := hI.mono (pick2 _ _ _)
            have hI := hI.mono (pick3 _ _ _ _)
            exact Qn.thenJ fun a ha => ⟨k, Nat.lt_succ_self k, x17 + runeW a0 x17, y47, y48, Z41, A49, cp50, h1, ha.keep [0, 3, 8] (by kernel_rfl), hI, (Hp.le_trans hle16 hle42)⟩
          · rw [if_neg hb39] at h1
            refine CodT.no' (b := (runeAt a0 x17) == 10) (by kernel_rfl) (by simpa using hb39) ?_
            obtain ⟨r2, h2, h1⟩ := bindS h1
            refine CodT.meet (fun a w => ∃ (x51 : Bool), x51 = r2 ∧ Fr 57 [(0, .string a0), (3, .pointer (some ⟨b1, 0, none⟩)), (4, .int .i64 (x17 : Int)), (5, .int .i32 (runeAt a0 x17)), (8, .pointer (some ⟨b8, 0, none⟩)), (30, .bool x51)] a ∧ Inv w0 Z15 w (star (pt b8 (.stringIter a0 (x17 + runeW a0 x17))) (star (pt b1 (.cells ((([selfP b1 x18, .slice A20 x19.length cp21] : List Value))).toArray 113 (0, 0))) (star (ownS 5 (cI .u8) 1 A20 cp21 x19) A)))) ?_ ?_
            ·
              refine CodT.regionL [0, 1, 2, 3, 4, 5, 6, 7, 8, 9, 10, 11, 12] (by kernel_rfl) ?_
              refine OpsT.pures (r := [3, 4, 5, 6, 7, 8, 9, 10, 11, 12]) [0, 1, 2] [0, 3, 4, 5, 8, 33] (S' := [(0, .string a0), (3, .pointer (some ⟨b1, 0, none⟩)), (4, .int .i64 (x17 : Int)), (5, .int .i32 (runeAt a0 x17)), (8, .pointer (some ⟨b8, 0, none⟩)), (33, .bool (decide ((runeAt a0 x17) < 32)))]) (by kernel_rfl) ?_
              by_cases hb52 : (decide ((runeAt a0 x17) < 32)) = true
              · rw [if_pos hb52] at h2
                refine OpsT.keep [0, 3, 4, 5, 8, 33] (S' := [(0, .string a0), (3, .pointer (some ⟨b1, 0, none⟩)), (4, .int .i64 (x17 : Int)), (5, .int .i32 (runeAt a0 x17)), (8, .pointer (some ⟨b8, 0, none⟩)), (33, .bool true)]) (by (try simp only [hb52]); kernel_rfl) ?_
                refine OpsT.pures (r := []) [3, 4, 5, 6, 7, 8, 9, 10, 11, 12] [0, 3, 4, 5, 8, 30] (S' := [(0, .string a0), (3, .pointer (some ⟨b1, 0, none⟩)), (4, .int .i64 (x17 : Int)), (5, .int .i32 (runeAt a0 x17)), (8, .pointer (some ⟨b8, 0, none⟩)), (30, .bool true)]) (by kernel_rfl) ?_
                refine OpsT.done ?_
                have e := someS h2
                subst e
                exact Qn.thenJ fun a ha => ⟨true, rfl, ha.keep [0, 3, 4, 5, 8, 30] (by kernel_rfl), hI⟩
              · rw [if_neg hb52] at h2
                have hb52 : (decide ((runeAt a0 x17) < 32)) = false := by simpa using hb52
                refine OpsT.keep [0, 3, 4, 5, 8, 33] (S' := [(0, .string a0), (3, .pointer (some ⟨b1, 0, none⟩)), (4, .int .i64 (x17 : Int)), (5, .int .i32 (runeAt a0 x17)), (8, .pointer (some ⟨b8, 0, none⟩)), (33, .bool false)]) (by (try simp only [hb52]); kernel_rfl) ?_
                refine OpsT.pures (r := [7, 8, 9, 10, 11, 12]) [3, 4, 5, 6] [0, 3, 4, 5, 8, 37] (S' := [(0, .string a0), (3, .pointer (some ⟨b1, 0, none⟩)), (4, .int .i64 (x17 : Int)), (5, .int .i32 (runeAt a0 x17)), (8, .pointer (some ⟨b8, 0, none⟩)), (37, .bool ((runeAt a0 x17) == 127))]) (by kernel_rfl) ?_
                by_cases hb53 : ((runeAt a0 x17) == 127) = true
                · rw [if_pos hb53] at h2
                  refine OpsT.keep [0, 3, 4, 5, 8, 37] (S' := [(0, .string a0), (3, .pointer (some ⟨b1, 0, none⟩)), (4, .int .i64 (x17 : Int)), (5, .int .i32 (runeAt a0 x17)), (8, .pointer (some ⟨b8, 0, none⟩)), (37, .bool true)]) (by (try simp only [hb53]); kernel_rfl) ?_
                  refine OpsT.pures (r := []) [7, 8, 9, 10, 11, 12] [0, 3, 4, 5, 8, 30] (S' := [(0, .string a0), (3, .pointer (some ⟨b1, 0, none⟩)), (4, .int .i64 (x17 : Int)), (5, .int .i32 (runeAt a0 x17)), (8, .pointer (some ⟨b8, 0, none⟩)), (30, .bool true)]) (by kernel_rfl) ?_
                  refine OpsT.done ?_
                  have e := someS h2
                  subst e
                  exact Qn.thenJ fun a ha => ⟨true, rfl, ha.keep [0, 3, 4, 5, 8, 30] (by kernel_rfl), hI⟩
                · rw [if_neg hb53] at h2
                  have hb53 : ((runeAt a0 x17) == 127) = false := by simpa using hb53
                  refine OpsT.keep [0, 3, 4, 5, 8, 37] (S' := [(0, .string a0), (3, .pointer (some ⟨b1, 0, none⟩)), (4, .int .i64 (x17 : Int)), (5, .int .i32 (runeAt a0 x17)), (8, .pointer (some ⟨b8, 0, none⟩)), (37, .bool false)]) (by (try simp only [hb53]); kernel_rfl) ?_
                  refine OpsT.pures (r := [10, 11, 12]) [7, 8, 9] [0, 3, 4, 5, 8, 37, 38, 39, 40] (S' := [(0, .string a0), (3, .pointer (some ⟨b1, 0, none⟩)), (4, .int .i64 (x17 : Int)), (5, .int .i32 (runeAt a0 x17)), (8, .pointer (some ⟨b8, 0, none⟩)), (37, .bool false), (38, .string a0), (39, .int .i64 (x17 : Int)), (40, .int .i32 (runeAt a0 x17))]) (by kernel_rfl) ?_
                  obtain ⟨y55, hc54, h2⟩ := bindS h2
                  try dsimp only at h2
                  refine OpsT.cons (Does.call (d := some 41) (n := 67) (vs := [.string a0, .int .i64 (x17 : Int), .int .i32 (runeAt a0 x17)]) (by kernel_rfl) en67 (c67 w0 w _ _ hI (hT.mono hle16) a0 (x17 : Int) (runeAt a0 x17) _ hc54) ?_)
                  rintro e w ⟨rfl, hI⟩
                  refine ⟨_, rfl, ?_⟩
                  refine OpsT.pures (r := []) [11, 12] [0, 3, 4, 5, 8, 30] (S' := [(0, .string a0), (3, .pointer (some ⟨b1, 0, none⟩)), (4, .int .i64 (x17 : Int)), (5, .int .i32 (runeAt a0 x17)), (8, .pointer (some ⟨b8, 0, none⟩)), (30, .bool y55)]) (by kernel_rfl) ?_
                  refine OpsT.done ?_
                  have e := someS h2
                  subst e
                  exact Qn.thenJ fun a ha => ⟨y55, rfl, ha.keep [0, 3, 4, 5, 8, 30] (by kernel_rfl), hI⟩
            ·
              rintro a w ⟨x51, rfl, ha, hI⟩
              try dsimp only at h1
              refine CodT.of ?_ ha
              by_cases hb56 : x51 = true
              · rw [if_pos hb56] at h1
                refine CodT.yes' (b := x51) (by kernel_rfl) hb56 ?_
                refine CodT.drawI (n := 12) [11] (by kernel_rfl) (by kernel_rfl) hI ?_
                intro w hI
                refine GmT.p' 0 43 (.string a0) (by kernel_rfl) (by kernel_rfl) ?_
                refine GmT.p' 1 44 (.int .i64 (x17 : Int)) (by kernel_rfl) (by kernel_rfl) ?_
                refine GmT.p' 5 48 (.string a0) (by kernel_rfl) (by kernel_rfl) ?_
                refine GmT.p' 6 49 (.int .i64 (x17 : Int)) (by kernel_rfl) (by kernel_rfl) ?_
                obtain ⟨hg57, h1⟩ := guardS h1
                refine GmT.r (i := 2) 5 (by kernel_rfl) (by kernel_rfl) (Yl.indexStr (d := 45) (T := 9) (k := .i64) (j := (x17 : Int)) (s := a0) (by kernel_rfl) Go.Proofs.Try.underlying9 hg57.1 hg57.2) hI ?_
                refine GmT.p' 3 46 (.int .u8 (bShr .u8 (bt a0 (x17 : Int)) 4)) (by kernel_rfl) (by kernel_rfl) ?_
                obtain ⟨hg58, h1⟩ := guardS h1
                refine GmT.r (i := 4) 3 (by kernel_rfl) (by kernel_rfl) (Yl.indexStr (d := 47) (T := 9) (k := .u8) (j := bShr .u8 (bt a0 (x17 : Int)) 4) (s := (⟨#[48, 49, 50, 51, 52, 53, 54, 55, 56, 57, 97, 98, 99, 100, 101, 102]⟩ : ByteArray)) (by kernel_rfl) Go.Proofs.Try.underlying9 hg58.1 hg58.2) hI ?_
                obtain ⟨hg59, h1⟩ := guardS h1
                refine GmT.r (i := 7) 5 (by kernel_rfl) (by kernel_rfl) (Yl.indexStr (d := 50) (T := 9) (k := .i64) (j := (x17 : Int)) (s := a0) (by kernel_rfl) Go.Proofs.Try.underlying9 hg59.1 hg59.2) hI ?_
                refine GmT.p' 8 51 (.int .u8 (bAnd .u8 (bt a0 (x17 : Int)) 15)) (by kernel_rfl) (by kernel_rfl) ?_
                obtain ⟨hg60, h1⟩ := guardS h1
                refine GmT.r (i := 9) 3 (by kernel_rfl) (by kernel_rfl) (Yl.indexStr (d := 52) (T := 9) (k := .u8) (j := bAnd .u8 (bt a0 (x17 : Int)) 15) (s := (⟨#[48, 49, 50, 51, 52, 53, 54, 55, 56, 57, 97, 98, 99, 100, 101, 102]⟩ : ByteArray)) (by kernel_rfl) Go.Proofs.Try.underlying9 hg60.1 hg60.2) hI ?_
                refine GmT.o (i := 10) (by kernel_rfl) (Does.buildSlice (en := (cI .u8)) (d := 53) (n := 4) (T := 37) (ps := [(0, .int .u8 92), (1, .int .u8 120), (2, .int .u8 (bt (⟨#[48, 49, 50, 51, 52, 53, 54, 55, 56, 57, 97, 98, 99, 100, 101, 102]⟩ : ByteArray) (bShr .u8 (bt a0 (x17 : Int)) 4))), (3, .int .u8 (bt (⟨#[48, 49, 50, 51, 52, 53, 54, 55, 56, 57, 97, 98, 99, 100, 101, 102]⟩ : ByteArray) (bAnd .u8 (bt a0 (x17 : Int)) 15)))]) ([92, 120, bt (⟨#[48, 49, 50, 51, 52, 53, 54, 55, 56, 57, 97, 98, 99, 100, 101, 102]⟩ : ByteArray) (bShr .u8 (bt a0 (x17 : Int)) 4), bt (⟨#[48, 49, 50, 51, 52, 53, 54, 55, 56, 57, 97, 98, 99, 100, 101, 102]⟩ : ByteArray) (bAnd .u8 (bt a0 (x17 : Int)) 15)] : List Int) (by kernel_rfl) Go.Proofs.Try.underlying37 ty5 (by kernel_rfl) (by kernel_rfl) (by kernel_rfl) (by kernel_rfl) (len_all (fun _ => rfl)) hI ?_)
                intro b61 w hI
                have hC := hI
                have hC := hC.drop
                refine ⟨fun _ _ => hC, ?_⟩
                obtain ⟨Z62, hle63, hr64, hI⟩ := ownS_freeze hI
                have hI := hI.mono (pick3 _ _ _ _)
                have hI := hI.mono (pick3 _ _ _ _)
                obtain ⟨⟨y66, y67, y68, y69⟩, hc65, h1⟩ := bindS h1
                try dsimp only at h1
                refine GmT.o (i := 11) (by kernel_rfl) (Does.call (d := some 54) (n := 66) (vs := [.pointer (some ⟨b1, 0, none⟩), .slice (some ⟨b61, 0, none⟩) (([92, 120, bt (⟨#[48, 49, 50, 51, 52, 53, 54, 55, 56, 57, 97, 98, 99, 100, 101, 102]⟩ : ByteArray) (bShr .u8 (bt a0 (x17 : Int)) 4), bt (⟨#[48, 49, 50, 51, 52, 53, 54, 55, 56, 57, 97, 98, 99, 100, 101, 102]⟩ : ByteArray) (bAnd .u8 (bt a0 (x17 : Int)) 15)] : List Int).length) 4]) (by kernel_rfl) en66 (c66 w0 w _ _ (hT.mono (Hp.le_trans hle16 hle63)) b1 x18 A20 cp21 x19 (some ⟨b61, 0, none⟩) 4 ([92, 120, bt (⟨#[48, 49, 50, 51, 52, 53, 54, 55, 56, 57, 97, 98, 99, 100, 101, 102]⟩ : ByteArray) (bShr .u8 (bt a0 (x17 : Int)) 4), bt (⟨#[48, 49, 50, 51, 52, 53, 54, 55, 56, 57, 97, 98, 99, 100, 101, 102]⟩ : ByteArray) (bAnd .u8 (bt a0 (x17 : Int)) 15)] : List Int) hr64 hI _ hc65) ?_)
                rintro e w ⟨A70, cp71, rfl, hI⟩
                refine ⟨_, rfl, ?_⟩
                refine ⟨fun h => absurd h (by decide), ?_⟩
                refine GmT.done (by kernel_rfl) ?_
                refine Qn.block_normal ?_
                refine Qn.block_normal ?_
                have hI := hI.mono (pick2 _ _ _)
                have hI := hI.mono (pick3 _ _ _ _)
                exact Qn.thenJ fun a ha => ⟨k, Nat.lt_succ_self k, x17 + runeW a0 x17, y68, y69, Z62, A70, cp71, h1, ha.keep [0, 3, 8] (by kernel_rfl), hI, (Hp.le_trans hle16 hle63)⟩
              · rw [if_neg hb56] at h1
                refine CodT.no' (b := x51) (by kernel_rfl) (by simpa using hb56) ?_
                refine CodT.regionL [0, 1] (by kernel_rfl) ?_
                refine OpsT.pures (r := [1]) [0] [0, 3, 8, 13] (S' := [(0, .string a0), (3, .pointer (some ⟨b1, 0, none⟩)), (8, .pointer (some ⟨b8, 0, none⟩)), (13, .int .i32 (runeAt a0 x17))]) (by kernel_rfl) ?_
                have hI := hI.mono (pick3 _ _ _ _)
                have hI := hI.mono (pick3 _ _ _ _)
                obtain ⟨⟨y73, y74, y75, y76⟩, hc72, h1⟩ := bindS h1
                try dsimp only at h1
                refine OpsT.cons (Does.call (d := some 14) (n := 65) (vs := [.pointer (some ⟨b1, 0, none⟩), .int .i32 (runeAt a0 x17)]) (by kernel_rfl) en65 (c65 w0 w _ _ (hT.mono hle16) b1 x18 A20 cp21 x19 (runeAt a0 x17) hI _ hc72) ?_)
                rintro e w ⟨A77, cp78, rfl, hI⟩
                refine ⟨_, rfl, ?_⟩
                refine OpsT.done ?_
                refine Qn.block_normal ?_
                refine Qn.block_normal ?_
                have hI := hI.mono (pick2 _ _ _)
                have hI := hI.mono (pick3 _ _ _ _)
                exact Qn.thenJ fun a ha => ⟨k, Nat.lt_succ_self k, x17 + runeW a0 x17, y75, y76, Z15, A77, cp78, h1, ha.keep [0, 3, 8] (by kernel_rfl), hI, hle16⟩
    · rw [if_neg hb22] at h1
      refine OpsT.cons (Does.nextEnd (d := 9) (b := b8) (pos := x17) (s := a0) (by kernel_rfl) hI hb22 ?_)
      refine OpsT.pures (r := []) [1] [0, 3, 8, 9, 10] (S' := [(0, .string a0), (3, .pointer (some ⟨b1, 0, none⟩)), (8, .pointer (some ⟨b8, 0, none⟩)), (9, .tuple #[.bool false]), (10, .bool false)]) (by kernel_rfl) ?_
      refine OpsT.done ?_
      refine Qn.then ?_
      refine CodT.seq ?_
      refine CodT.no (by kernel_rfl) ?_
      refine CodT.exit ?_
      refine Qn.exit_then ?_
      refine Qn.exit_then ?_
      refine Qn.block ?_
      have hI := hI.drop
      have e := someS h1
      subst e
      exact Qn.thenJ fun a ha => ⟨x18, x19, Z15, A20, cp21, rfl, ha.keep [3] (by kernel_rfl), hI, hle16⟩
  ·
    rintro a w ⟨x11, x12, Z9, A13, cp14, rfl, ha, hI, hle10⟩
    try dsimp only at h0
    refine Qn.of ?_ ha
    refine Qn.then ?_
    refine CodT.seq ?_
    refine CodT.regionL [0] (by kernel_rfl) ?_
    have hI := hI.mono (pick2 _ _ _)
    obtain ⟨⟨y80, y81, y82⟩, hc79, h0⟩ := bindS h0
    try dsimp only at h0
    refine OpsT.cons (Does.call (d := some 55) (n := 64) (vs := [.pointer (some ⟨b1, 0, none⟩), .int .u8 34]) (by kernel_rfl) en64 (c64 w0 w _ _ (hT.mono hle10) b1 x11 A13 cp14 x12 34 hI _ hc79) ?_)
    rintro e w ⟨A83, cp84, rfl, hI⟩
    refine ⟨_, rfl, ?_⟩
    refine OpsT.done ?_
    refine Qn.then ?_
    refine CodT.seq ?_
    refine CodT.regionL [0, 1] (by kernel_rfl) ?_
    have hI := hI.mono (pick2 _ _ _)
    have hI := hI.mono (pick2 _ _ _)
    obtain ⟨⟨y86, y87, y88⟩, hc85, h0⟩ := bindS h0
    try dsimp only at h0
    refine OpsT.cons (Does.call (d := some 56) (n := 68) (vs := [.pointer (some ⟨b1, 0, none⟩)]) (by kernel_rfl) en68 (c68 w0 w _ _ (hT.mono hle10) b1 y81 A83 cp84 y82 hI _ hc85) ?_)
    rintro e w ⟨A89, cp90, Z92, hle93, rfl, hr91, hI⟩
    refine ⟨_, rfl, ?_⟩
    refine OpsT.pures (r := []) [1] [2] (S' := [(2, .string y86)]) (by kernel_rfl) ?_
    refine OpsT.done ?_
    refine Qn.then ?_
    refine CodT.ret ?_
    have hI := hI.drop
    have e := someS h0
    subst e
    refine Qn.keep [2] (S' := [(2, .string y86)]) (by kernel_rfl) ?_
    exact post_ret (v := .string y86) (fun a ha => RunRes.run (vs := [.string y86]) (.tmp (t := 2) (by kernel_rfl) .nil) ha (by kernel_rfl)) ⟨rfl, hI.weaken (Hp.le_trans hle10 hle93)⟩
set_option maxRecDepth 100000 in
set_option maxHeartbeats 4000000 in
/-- (cenotaph/event.text).show -/
theorem c61 (w0 w : World) (Z : Hp) (A : HP) (hI : Inv w0 Z w A) (hT : Tabs Z) (a0 : ByteArray) (r : ByteArray) (h0 : event_text_show a0 = some r) :
    Calls prog 61 #[.string a0] w (fun e w' => e = .returned (.string r) ∧ Inv w0 Z w' A) := by
  have e4 := calls_intro (R := (fun e w' => e = .returned (.string r) ∧ Inv w0 Z w' A)) (w := w) (args := [.string a0]) (fn := Go.Proofs.Try.f61) 5 Go.Proofs.Try.func61 (by rfl) Go.Proofs.Try.ntmps61 (by kernel_rfl)
  refine e4 ?_
  clear e4
  unfold event_text_show at h0
  refine CodT.seq ?_
  refine CodT.regionL [0] (by kernel_rfl) ?_
  refine OpsT.pures (r := []) [0] [0] (S' := [(0, .string a0)]) (by kernel_rfl) ?_
  refine OpsT.done ?_
  refine Qn.then ?_
  refine CodT.seq ?_
  refine CodT.regionL [0, 1, 2] (by kernel_rfl) ?_
  refine OpsT.pures (r := [1, 2]) [0] [3] (S' := [(3, .string a0)]) (by kernel_rfl) ?_
  obtain ⟨y2, hc1, h0⟩ := bindS h0
  try dsimp only at h0
  refine OpsT.cons (Does.call (d := some 4) (n := 63) (vs := [.string a0]) (by kernel_rfl) en63 (c63 w0 w _ _ hI hT a0 _ hc1) ?_)
  rintro e w ⟨rfl, hI⟩
  refine ⟨_, rfl, ?_⟩
  refine OpsT.pures (r := []) [2] [2] (S' := [(2, .string y2)]) (by kernel_rfl) ?_
  refine OpsT.done ?_
  refine Qn.then ?_
  refine CodT.ret ?_
  have e := someS h0
  subst e
  refine Qn.keep [2] (S' := [(2, .string y2)]) (by kernel_rfl) ?_
  exact post_ret (v := .string y2) (fun a ha => RunRes.run (vs := [.string y2]) (.tmp (t := 2) (by kernel_rfl) .nil) ha (by kernel_rfl)) ⟨rfl, hI⟩
set_option maxRecDepth 100000 in
set_option maxHeartbeats 4000000 in
/-- cenotaph/sha.Text -/
theorem c78 (w0 w : World) (Z : Hp) (A : HP) (hI : Inv w0 Z w A) (hT : Tabs Z) (a0 : (List Int)) (hl_a0 : a0.length = 32) (r : ByteArray) (h0 : sha_Text a0 = some r) :
    Calls prog 78 #[.agg (cA (Value.int .u8) a0).toArray] w (fun e w' => e = .returned (.string r) ∧ Inv w0 Z w' A) := by
  have e4 := calls_intro (R := (fun e w' => e = .returned (.string r) ∧ Inv w0 Z w' A)) (w := w) (args := [.agg (cA (Value.int .u8) a0).toArray]) (fn := Go.Proofs.Try.f78) 22 Go.Proofs.Try.func78 (by rfl) Go.Proofs.Try.ntmps78 (by kernel_rfl)
  refine e4 ?_
  clear e4
  unfold sha_Text at h0
  refine CodT.seq ?_
  refine CodT.regionL [0, 1] (by kernel_rfl) ?_
  refine OpsT.cons (Does.boxL (d := 1) (T := 24) (v := .agg (cA (Value.int .u8) a0).toArray) (cA (Value.int .u8) a0) (by kernel_rfl) hI (by kernel_rfl) ?_)
  intro b1 w hI
  refine OpsT.pures (r := []) [1] [1] (S' := [(1, .pointer (some ⟨b1, 0, none⟩))]) (by kernel_rfl) ?_
  refine OpsT.done ?_
  refine Qn.then ?_
  refine CodT.seq ?_
  refine CodT.regionL [0] (by kernel_rfl) ?_
  refine OpsT.pures (r := []) [0] [1, 3] (S' := [(1, .pointer (some ⟨b1, 0, none⟩)), (3, .slice none 0 0)]) (by kernel_rfl) ?_
  refine OpsT.done ?_
  refine Qn.then ?_
  refine CodT.seq ?_
  refine CodT.seq ?_
  refine CodT.regionL [0, 1] (by kernel_rfl) ?_
  refine OpsT.cons (Does.yi (Yl.load (d := 6) (T := 24) (v := .agg (cA (Value.int .u8) a0).toArray) (by kernel_rfl) (ldBN ty24 (l := cA (Value.int .u8) a0) (o := 0) (cs := cA (Value.int .u8) a0) (ent_refl _) ((cA_length _ _).trans hl_a0) (whole _ _ ((cA_length _ _).trans hl_a0)))) hI ?_)
  refine OpsT.pures (r := []) [1] [3, 6, 7] (S' := [(3, .slice none 0 0), (6, .agg (cA (Value.int .u8) a0).toArray), (7, .int .i64 0)]) (by kernel_rfl) ?_
  refine OpsT.done ?_
  refine Qn.then ?_
  obtain ⟨r1, h1, h0⟩ := bindS h0
  refine CodT.meet1 (fun a w => ∃ (x2 : (List Int)) (A3 : Option Addr) (cp4 : Nat), x2 = r1 ∧ Fr 22 [(3, .slice A3 x2.length cp4)] a ∧ Inv w0 Z w (star (ownS 5 (cI .u8) 1 A3 cp4 x2) A)) ?_ ?_
  ·
    refine CodT.block ?_
    have hI := ownS_nil (α := Int) hI 5 (cI .u8) 1
    have hI := hI.mono (pick2 _ _ _)
    have hI := hI.drop
    refine (fun a ha => wp_loopN (fun k a w => ∃ (x5 : (List Int)) (x8 : Int) (A6 : Option Addr) (cp7 : Nat), sha_Text.l0 a0 k x5 x8 = some r1 ∧ Fr 22 [(3, .slice A6 x5.length cp7), (6, .agg (cA (Value.int .u8) a0).toArray), (7, .int .i64 x8)] a ∧ Inv w0 Z w (star (ownS 5 (cI .u8) 1 A6 cp7 x5) A)) ?_ FU a w ⟨([] : List Int), 0, none, 0, h1, ha.keep [3, 6, 7] (by kernel_rfl), hI⟩)
    clear h1 hI
    rintro k a w ⟨x5, x8, A6, cp7, h1, ha, hI⟩
    rcases k with _ | k
    · cases h1
    simp only [sha_Text.l0] at h1
    refine CodT.of ?_ ha
    refine CodT.seq ?_
    refine CodT.regionL [0] (by kernel_rfl) ?_
    refine OpsT.pures (r := []) [0] [3, 6, 7, 8] (S' := [(3, .slice A6 x5.length cp7), (6, .agg (cA (Value.int .u8) a0).toArray), (7, .int .i64 x8), (8, .bool (decide (x8 < 32)))]) (by kernel_rfl) ?_
    refine OpsT.done ?_
    refine Qn.then ?_
    refine CodT.seq ?_
    by_cases hb9 : (decide (x8 < 32)) = true
    · rw [if_pos hb9] at h1
      refine CodT.yes' (b := decide (x8 < 32)) (by kernel_rfl) hb9 ?_
      refine CodT.skip ?_
      refine Qn.then ?_
      refine CodT.seq ?_
      refine CodT.block ?_
      refine CodT.seq ?_
      refine CodT.regionL [0, 1] (by kernel_rfl) ?_
      obtain ⟨hg10, h1⟩ := guardS h1
      refine OpsT.cons (Does.yi (Yl.indexAgg (d := 9) (T := 24) (k := .i64) (j := x8) (l := cA (Value.int .u8) a0) (v := .int .u8 (gt a0 x8)) (by kernel_rfl) Go.Proofs.Try.underlying24 ty5 hg10.1 hg10.2 (arr_get' _ _ hg10.1 (by have := And.intro hl_a0 hg10.2; omega))) hI ?_)
      refine OpsT.pures (r := []) [1] [3, 5, 6, 7] (S' := [(3, .slice A6 x5.length cp7), (5, .int .u8 (gt a0 x8)), (6, .agg (cA (Value.int .u8) a0).toArray), (7, .int .i64 x8)]) (by kernel_rfl) ?_
      refine OpsT.done ?_
      refine Qn.then ?_
      refine CodT.drawI (n := 10) [8] (by kernel_rfl) (by kernel_rfl) hI ?_
      intro w hI
      refine GmT.p' 0 10 (.slice A6 x5.length cp7) (by kernel_rfl) (by kernel_rfl) ?_
      refine GmT.p' 1 11 (.int .u8 (gt a0 x8)) (by kernel_rfl) (by kernel_rfl) ?_
      refine GmT.p' 2 12 (.int .u8 (bShr .u8 (gt a0 x8) 4)) (by kernel_rfl) (by kernel_rfl) ?_
      refine GmT.p' 4 14 (.int .u8 (gt a0 x8)) (by kernel_rfl) (by kernel_rfl) ?_
      refine GmT.p' 5 15 (.int .u8 (bAnd .u8 (gt a0 x8) 15)) (by kernel_rfl) (by kernel_rfl) ?_
      obtain ⟨hg11, h1⟩ := guardS h1
      refine GmT.r (i := 3) 3 (by kernel_rfl) (by kernel_rfl) (Yl.indexStr (d := 13) (T := 9) (k := .u8) (j := bShr .u8 (gt a0 x8) 4) (s := (⟨#[48, 49, 50, 51, 52, 53, 54, 55, 56, 57, 97, 98, 99, 100, 101, 102]⟩ : ByteArray)) (by kernel_rfl) Go.Proofs.Try.underlying9 hg11.1 hg11.2) hI ?_
      obtain ⟨hg12, h1⟩ := guardS h1
      refine GmT.r (i := 6) 3 (by kernel_rfl) (by kernel_rfl) (Yl.indexStr (d := 16) (T := 9) (k := .u8) (j := bAnd .u8 (gt a0 x8) 15) (s := (⟨#[48, 49, 50, 51, 52, 53, 54, 55, 56, 57, 97, 98, 99, 100, 101, 102]⟩ : ByteArray)) (by kernel_rfl) Go.Proofs.Try.underlying9 hg12.1 hg12.2) hI ?_
      refine GmT.o (i := 7) (by kernel_rfl) (Does.buildSlice (en := (cI .u8)) (d := 17) (n := 2) (T := 37) (ps := [(0, .int .u8 (bt (⟨#[48, 49, 50, 51, 52, 53, 54, 55, 56, 57, 97, 98, 99, 100, 101, 102]⟩ : ByteArray) (bShr .u8 (gt a0 x8) 4))), (1, .int .u8 (bt (⟨#[48, 49, 50, 51, 52, 53, 54, 55, 56, 57, 97, 98, 99, 100, 101, 102]⟩ : ByteArray) (bAnd .u8 (gt a0 x8) 15)))]) ([bt (⟨#[48, 49, 50, 51, 52, 53, 54, 55, 56, 57, 97, 98, 99, 100, 101, 102]⟩ : ByteArray) (bShr .u8 (gt a0 x8) 4), bt (⟨#[48, 49, 50, 51, 52, 53, 54, 55, 56, 57, 97, 98, 99, 100, 101, 102]⟩ : ByteArray) (bAnd .u8 (gt a0 x8) 15)] : List Int) (by kernel_rfl) Go.Proofs.Try.underlying37 ty5 (by kernel_rfl) (by kernel_rfl) (by kernel_rfl) (by kernel_rfl) (len_all (fun _ => rfl)) hI ?_)
      intro b13 w hI
      have hC := hI
      have hC := hC.drop
      refine ⟨fun _ _ => hC, ?_⟩
      obtain ⟨hg14, h1⟩ := guardS h1
      have hI := hI.mono (pick2 _ _ _)
      refine GmT.o (i := 8) (by kernel_rfl) (Does.append (d := 18) (t := 37) (tx := 37) (ty := 37) (ys := x5) (zs := ([bt (⟨#[48, 49, 50, 51, 52, 53, 54, 55, 56, 57, 97, 98, 99, 100, 101, 102]⟩ : ByteArray) (bShr .u8 (gt a0 x8) 4), bt (⟨#[48, 49, 50, 51, 52, 53, 54, 55, 56, 57, 97, 98, 99, 100, 101, 102]⟩ : ByteArray) (bAnd .u8 (gt a0 x8) 15)] : List Int)) (x := .slice (some ⟨b13, 0, none⟩) (([bt (⟨#[48, 49, 50, 51, 52, 53, 54, 55, 56, 57, 97, 98, 99, 100, 101, 102]⟩ : ByteArray) (bShr .u8 (gt a0 x8) 4), bt (⟨#[48, 49, 50, 51, 52, 53, 54, 55, 56, 57, 97, 98, 99, 100, 101, 102]⟩ : ByteArray) (bAnd .u8 (gt a0 x8) 15)] : List Int).length) 2) (by kernel_rfl) Go.Proofs.Try.underlying37 ty5 (by kernel_rfl) hI (src_own Go.Proofs.Try.underlying37 (hI.mono (pick2 _ _ _)) (one_flat _ (fun _ => rfl))) (ownS_facts (hI.mono (pick2 _ _ _))).2.2 (by unfold LIM at hg14; omega) hg14 ?_)
      intro A15 cp16 w hI
      refine ⟨fun h => absurd h (by decide), ?_⟩
      refine GmT.p' 9 3 (.slice A15 ((x5 ++ ([bt (⟨#[48, 49, 50, 51, 52, 53, 54, 55, 56, 57, 97, 98, 99, 100, 101, 102]⟩ : ByteArray) (bShr .u8 (gt a0 x8) 4), bt (⟨#[48, 49, 50, 51, 52, 53, 54, 55, 56, 57, 97, 98, 99, 100, 101, 102]⟩ : ByteArray) (bAnd .u8 (gt a0 x8) 15)] : List Int)).length) cp16) (by kernel_rfl) (by kernel_rfl) ?_
      refine GmT.done (by kernel_rfl) ?_
      refine Qn.block_normal ?_
      refine Qn.then ?_
      refine CodT.regionL [0, 1] (by kernel_rfl) ?_
      refine OpsT.pures (r := []) [0, 1] [3, 6, 7] (S' := [(3, .slice A15 ((x5 ++ ([bt (⟨#[48, 49, 50, 51, 52, 53, 54, 55, 56, 57, 97, 98, 99, 100, 101, 102]⟩ : ByteArray) (bShr .u8 (gt a0 x8) 4), bt (⟨#[48, 49, 50, 51, 52, 53, 54, 55, 56, 57, 97, 98, 99, 100, 101, 102]⟩ : ByteArray) (bAnd .u8 (gt a0 x8) 15)] : List Int)).length) cp16), (6, .agg (cA (Value.int .u8) a0).toArray), (7, .int .i64 (wi64 (x8 + 1)))]) (by kernel_rfl) ?_
      refine OpsT.done ?_
      have hI := hI.mono (pick2 _ _ _)
      have hI := hI.drop
      exact Qn.thenJ fun a ha => ⟨k, Nat.lt_succ_self k, x5 ++ ([bt (⟨#[48, 49, 50, 51, 52, 53, 54, 55, 56, 57, 97, 98, 99, 100, 101, 102]⟩ : ByteArray) (bShr .u8 (gt a0 x8) 4), bt (⟨#[48, 49, 50, 51, 52, 53, 54, 55, 56, 57, 97, 98, 99, 100, 101, 102]⟩ : ByteArray) (bAnd .u8 (gt a0 x8) 15)] : List Int), wi64 (x8 + 1), A15, cp16, h1, ha.keep [3, 6, 7] (by kernel_rfl), hI⟩
    · rw [if_neg hb9] at h1
      refine CodT.no' (b := decide (x8 < 32)) (by kernel_rfl) (by simpa using hb9) ?_
      refine CodT.exit ?_
      refine Qn.exit_then ?_
      refine Qn.exit_then ?_
      refine Qn.block ?_
      have e := someS h1
      subst e
      exact Qn.thenJ fun a ha => ⟨x5, A6, cp7, rfl, ha.keep [3] (by kernel_rfl), hI⟩
  ·
    rintro a w ⟨x2, A3, cp4, rfl, ha, hI⟩
    try dsimp only at h0
    refine Qn.of ?_ ha
    refine Qn.then ?_
    refine CodT.seq ?_
    refine CodT.regionL [0, 1, 2] (by kernel_rfl) ?_
    refine OpsT.pures (r := [1, 2]) [0] [20] (S' := [(20, .slice A3 x2.length cp4)]) (by kernel_rfl) ?_
    refine OpsT.cons (Does.b2sOwn (d := 21) (src := 37) (dst := 9) (xs := x2) (by kernel_rfl) Go.Proofs.Try.underlying37 Go.Proofs.Try.underlying5 Go.Proofs.Try.underlying9 hI ?_)
    refine OpsT.pures (r := []) [2] [2] (S' := [(2, .string (strOfNums x2))]) (by kernel_rfl) ?_
    refine OpsT.done ?_
    refine Qn.then ?_
    refine CodT.ret ?_
    have hI := hI.drop
    have e := someS h0
    subst e
    refine Qn.keep [2] (S' := [(2, .string (strOfNums x2))]) (by kernel_rfl) ?_
    exact post_ret (v := .string (strOfNums x2)) (fun a ha => RunRes.run (vs := [.string (strOfNums x2)]) (.tmp (t := 2) (by kernel_rfl) .nil) ha (by kernel_rfl)) ⟨rfl, hI⟩
set_option maxRecDepth 100000 in
set_option maxHeartbeats 4000000 in
/-- (cenotaph/event.sum).show -/
theorem c76 (w0 w : World) (Z : Hp) (A : HP) (hI : Inv w0 Z w A) (hT : Tabs Z) (a0 : (List Int)) (hl_a0 : a0.length = 32) (r : ByteArray) (h0 : event_sum_show a0 = some r) :
    Calls prog 76 #[.agg (cA (Value.int .u8) a0).toArray] w (fun e w' => e = .returned (.string r) ∧ Inv w0 Z w' A) := by
  have e4 := calls_intro (R := (fun e w' => e = .returned (.string r) ∧ Inv w0 Z w' A)) (w := w) (args := [.agg (cA (Value.int .u8) a0).toArray]) (fn := Go.Proofs.Try.f76) 6 Go.Proofs.Try.func76 (by rfl) Go.Proofs.Try.ntmps76 (by kernel_rfl)
  refine e4 ?_
  clear e4
  unfold event_sum_show at h0
  refine CodT.seq ?_
  refine CodT.regionL [0, 1] (by kernel_rfl) ?_
  refine OpsT.cons (Does.boxL (d := 1) (T := 60) (v := .agg (cA (Value.int .u8) a0).toArray) (cA (Value.int .u8) a0) (by kernel_rfl) hI (by kernel_rfl) ?_)
  intro b1 w hI
  refine OpsT.pures (r := []) [1] [1] (S' := [(1, .pointer (some ⟨b1, 0, none⟩))]) (by kernel_rfl) ?_
  refine OpsT.done ?_
  refine Qn.then ?_
  refine CodT.seq ?_
  refine CodT.regionL [0, 1, 2, 3] (by kernel_rfl) ?_
  refine OpsT.cons (Does.yi (Yl.load (d := 3) (T := 60) (v := .agg (cA (Value.int .u8) a0).toArray) (by kernel_rfl) (ldBN ty60 (l := cA (Value.int .u8) a0) (o := 0) (cs := cA (Value.int .u8) a0) (ent_refl _) ((cA_length _ _).trans hl_a0) (whole _ _ ((cA_length _ _).trans hl_a0)))) hI ?_)
  obtain ⟨y3, hc2, h0⟩ := bindS h0
  try dsimp only at h0
  refine OpsT.cons (Does.call (d := some 4) (n := 78) (vs := [.agg (cA (Value.int .u8) a0).toArray]) (by kernel_rfl) en78 (c78 w0 w _ _ hI hT a0 hl_a0 _ hc2) ?_)
  rintro e w ⟨rfl, hI⟩
  refine ⟨_, rfl, ?_⟩
  obtain ⟨hg4, h0⟩ := guardS h0
  refine OpsT.cons (Does.yi (Yl.sliceStr01 (d := 5) (T := 9) (s := y3) (hi := 8) (by kernel_rfl) Go.Proofs.Try.underlying9 hg4) hI ?_)
  refine OpsT.pures (r := []) [3] [2] (S' := [(2, .string (sx y3 0 8))]) (by kernel_rfl) ?_
  refine OpsT.done ?_
  refine Qn.then ?_
  refine CodT.ret ?_
  have hI := hI.drop
  have e := someS h0
  subst e
  refine Qn.keep [2] (S' := [(2, .string (sx y3 0 8))]) (by kernel_rfl) ?_
  exact post_ret (v := .string (sx y3 0 8)) (fun a ha => RunRes.run (vs := [.string (sx y3 0 8)]) (.tmp (t := 2) (by kernel_rfl) .nil) ha (by kernel_rfl)) ⟨rfl, hI⟩
set_option maxRecDepth 100000 in
set_option maxHeartbeats 4000000 in
/-- cenotaph/event.Show -/
theorem c6 (w0 w : World) (Z : Hp) (A : HP) (hI : Inv w0 Z w A) (hT : Tabs Z) (a0 : ApiEvent) (hl1 : a0.Sum.length = 32) (r : ByteArray) (h0 : event_Show a0 = some r) :
    Calls prog 6 #[.agg (c_ApiEvent a0).toArray] w (fun e w' => e = .returned (.string r) ∧ Inv w0 Z w' A) := by
  have e4 := calls_intro (R := (fun e w' => e = .returned (.string r) ∧ Inv w0 Z w' A)) (w := w) (args := [.agg (c_ApiEvent a0).toArray]) (fn := Go.Proofs.Try.f6) 27 Go.Proofs.Try.func6 (by rfl) Go.Proofs.Try.ntmps6 (by kernel_rfl)
  refine e4 ?_
  clear e4
  unfold event_Show at h0
  refine CodT.seq ?_
  refine CodT.regionL [0, 1] (by kernel_rfl) ?_
  refine OpsT.cons (Does.boxL (d := 1) (T := 26) (v := .agg (c_ApiEvent a0).toArray) (c_ApiEvent a0) (by kernel_rfl) hI (by kernel_rfl) ?_)
  intro b2 w hI
  refine OpsT.pures (r := []) [1] [1] (S' := [(1, .pointer (some ⟨b2, 0, none⟩))]) (by kernel_rfl) ?_
  refine OpsT.done ?_
  refine Qn.then ?_
  refine CodT.seq ?_
  refine CodT.seq ?_
  refine CodT.regionL [0, 1, 2] (by kernel_rfl) ?_
  refine OpsT.cons (Does.yi (Yl.load (d := 6) (T := 26) (v := .agg (c_ApiEvent a0).toArray) (by kernel_rfl) (ldBN ty26 (l := c_ApiEvent a0) (o := 0) (cs := c_ApiEvent a0) (ent_refl _) (len_ApiEvent _ hl1) (whole _ _ (len_ApiEvent _ hl1)))) hI ?_)
  obtain ⟨y4, hc3, h0⟩ := bindS h0
  try dsimp only at h0
  refine OpsT.cons (Does.call (d := some 7) (n := 9) (vs := [.agg (c_ApiEvent a0).toArray]) (by kernel_rfl) en9 (c9 w0 w _ _ hI hT a0 hl1 _ hc3) ?_)
  rintro e w ⟨rfl, hI⟩
  refine ⟨_, rfl, ?_⟩
  refine OpsT.pures (r := []) [2] [1, 8] (S' := [(1, .pointer (some ⟨b2, 0, none⟩)), (8, .bool (!y4))]) (by kernel_rfl) ?_
  refine OpsT.done ?_
  refine Qn.then ?_
  by_cases hb5 : (!y4) = true
  · rw [if_pos hb5] at h0
    refine CodT.yes' (b := !y4) (by kernel_rfl) hb5 ?_
    refine CodT.seq ?_
    refine CodT.regionL [0] (by kernel_rfl) ?_
    refine OpsT.pures (r := []) [0] [2] (S' := [(2, .string (⟨#[63]⟩ : ByteArray))]) (by kernel_rfl) ?_
    refine OpsT.done ?_
    refine Qn.then ?_
    refine CodT.ret ?_
    refine Qn.ret_then ?_
    have hI := hI.drop
    have e := someS h0
    subst e
    refine Qn.keep [2] (S' := [(2, .string (⟨#[63]⟩ : ByteArray))]) (by kernel_rfl) ?_
    exact post_ret (v := .string (⟨#[63]⟩ : ByteArray)) (fun a ha => RunRes.run (vs := [.string (⟨#[63]⟩ : ByteArray)]) (.tmp (t := 2) (by kernel_rfl) .nil) ha (by kernel_rfl)) ⟨rfl, hI⟩
  · rw [if_neg hb5] at h0
    refine CodT.no' (b := !y4) (by kernel_rfl) (by simpa using hb5) ?_
    refine CodT.skip ?_
    refine Qn.then ?_
    refine CodT.seq ?_
    refine CodT.drawI (n := 5) [] (by kernel_rfl) (by kernel_rfl) hI ?_
    intro w hI
    refine GmT.p' 1 10 (.pointer (some ⟨b2, 0, none⟩)) (by kernel_rfl) (by kernel_rfl) ?_
    refine GmT.r (i := 2) 2 (by kernel_rfl) (by kernel_rfl) (Yl.load (d := 11) (T := 22) (v := .int .i64 a0.Kind) (by kernel_rfl) (ldB ty22 (l := c_ApiEvent a0) (o := 0) (v := .int .i64 a0.Kind) (ent_refl _) (by kernel_rfl))) hI ?_
    obtain ⟨y7, hc6, h0⟩ := bindS h0
    try dsimp only at h0
    refine GmT.o (i := 0) (by kernel_rfl) (Does.call (d := some 9) (n := 12) (vs := []) (by kernel_rfl) en12 (c12 w0 w _ _ hI hT _ hc6) ?_)
    rintro e w ⟨rfl, hl8, hI⟩
    refine ⟨_, rfl, ?_⟩
    refine ⟨fun _ _ => hI, ?_⟩
    obtain ⟨hg9, h0⟩ := guardS h0
    refine GmT.r (i := 3) 2 (by kernel_rfl) (by kernel_rfl) (Yl.indexAgg (d := 12) (T := 45) (k := .i64) (j := a0.Kind) (l := cA Value.string y7) (v := .string (gt y7 a0.Kind)) (by kernel_rfl) Go.Proofs.Try.underlying45 ty9 hg9.1 hg9.2 (arr_get' _ _ hg9.1 (by have := And.intro hl8 hg9.2; omega))) hI ?_
    refine GmT.p' 4 3 (.string (gt y7 a0.Kind)) (by kernel_rfl) (by kernel_rfl) ?_
    refine GmT.done (by kernel_rfl) ?_
    refine Qn.then ?_
    refine CodT.seq ?_
    refine CodT.seq ?_
    refine CodT.regionL [0, 1, 2, 3] (by kernel_rfl) ?_
    refine OpsT.cons (Does.yi (Yl.load (d := 13) (T := 26) (v := .agg (c_ApiEvent a0).toArray) (by kernel_rfl) (ldBN ty26 (l := c_ApiEvent a0) (o := 0) (cs := c_ApiEvent a0) (ent_refl _) (len_ApiEvent _ hl1) (whole _ _ (len_ApiEvent _ hl1)))) hI ?_)
    obtain ⟨y11, hc10, h0⟩ := bindS h0
    try dsimp only at h0
    refine OpsT.cons (Does.call (d := some 14) (n := 11) (vs := [.agg (c_ApiEvent a0).toArray]) (by kernel_rfl) en11 (c11 w0 w _ _ hI hT a0 hl1 _ hc10) ?_)
    rintro e w ⟨A12, cp13, rfl, hI⟩
    refine ⟨_, rfl, ?_⟩
    refine OpsT.pures (r := []) [2, 3] [3, 14, 15, 16] (S' := [(3, .string (gt y7 a0.Kind)), (14, .slice A12 y11.length cp13), (15, .int .i64 (y11.length : Int)), (16, .int .i64 0)]) (by kernel_rfl) ?_
    refine OpsT.done ?_
    refine Qn.then ?_
    obtain ⟨r1, h1, h0⟩ := bindS h0
    refine CodT.meet1 (fun a w => ∃ (x14 : ByteArray), x14 = r1 ∧ Fr 27 [(3, .string x14)] a ∧ Inv w0 Z w A) ?_ ?_
    ·
      refine CodT.block ?_
      have hI := hI.mono (pick2 _ _ _)
      have hI := hI.drop
      refine (fun a ha => wp_loopN (fun k a w => ∃ (x15 : ByteArray) (x16 : Int), event_Show.l0 y11 k x15 x16 = some r1 ∧ Fr 27 [(3, .string x15), (14, .slice A12 y11.length cp13), (15, .int .i64 (y11.length : Int)), (16, .int .i64 x16)] a ∧ Inv w0 Z w (star (ownS 43 cD43 1 A12 cp13 y11) A)) ?_ FU a w ⟨gt y7 a0.Kind, 0, h1, ha.keep [3, 14, 15, 16] (by kernel_rfl), hI⟩)
      clear h1 hI
      rintro k a w ⟨x15, x16, h1, ha, hI⟩
      rcases k with _ | k
      · cases h1
      simp only [event_Show.l0] at h1
      refine CodT.of ?_ ha
      refine CodT.seq ?_
      refine CodT.regionL [0] (by kernel_rfl) ?_
      refine OpsT.pures (r := []) [0] [3, 14, 15, 16, 17] (S' := [(3, .string x15), (14, .slice A12 y11.length cp13), (15, .int .i64 (y11.length : Int)), (16, .int .i64 x16), (17, .bool (decide (x16 < (y11.length : Int))))]) (by kernel_rfl) ?_
      refine OpsT.done ?_
      refine Qn.then ?_
      refine CodT.seq ?_
      by_cases hb17 : (decide (x16 < (y11.length : Int))) = true
      · rw [if_pos hb17] at h1
        refine CodT.yes' (b := decide (x16 < (y11.length : Int))) (by kernel_rfl) hb17 ?_
        refine CodT.skip ?_
        refine Qn.then ?_
        obtain ⟨r2, h2, h1⟩ := bindS h1
        refine CodT.meet (fun a w => ∃ (x18 : ByteArray), x18 = r2 ∧ Fr 27 [(3, .string x18), (14, .slice A12 y11.length cp13), (15, .int .i64 (y11.length : Int)), (16, .int .i64 x16)] a ∧ Inv w0 Z w (star (ownS 43 cD43 1 A12 cp13 y11) A)) ?_ ?_
        ·
          refine CodT.block ?_
          refine CodT.seq ?_
          refine CodT.regionL [0, 1, 2] (by kernel_rfl) ?_
          obtain ⟨hg19, h2⟩ := guardS h2
          obtain ⟨g20, hA21, hr22, hl23⟩ := ownS_get hI hg19.1 hg19.2
          refine OpsT.cons (Does.yi (Yl.indexSlice (d := 18) (T := 40) (cc := cp13) (k := .i64) (j := x16) (g := g20) (o := 0) (by kernel_rfl) Go.Proofs.Try.underlying40 ty43 hA21 hg19.1 hg19.2) hI ?_)
          refine OpsT.cons (Does.yi (Yl.load (d := 19) (T := 43) (v := dynV43 (gt y11 x16)) (by kernel_rfl) (ldR ty43 (v := dynV43 (gt y11 x16)) 0 (fun w hC => hr22 w0 w _ hC) (by kernel_rfl))) hI ?_)
          refine OpsT.pures (r := []) [2] [3, 5, 14, 15, 16] (S' := [(3, .string x15), (5, dynV43 (gt y11 x16)), (14, .slice A12 y11.length cp13), (15, .int .i64 (y11.length : Int)), (16, .int .i64 x16)]) (by kernel_rfl) ?_
          refine OpsT.done ?_
          refine Qn.then ?_
          refine CodT.regionL [0, 1, 2, 3, 4, 5] (by kernel_rfl) ?_
          refine OpsT.pures (r := [2, 3, 4, 5]) [0, 1] [14, 15, 16, 20, 21] (S' := [(14, .slice A12 y11.length cp13), (15, .int .i64 (y11.length : Int)), (16, .int .i64 x16), (20, .string x15), (21, dynV43 (gt y11 x16))]) (by kernel_rfl) ?_
          rcases hd24 : gt y11 x16 with _ | z25 | z26 | z27
          ·
            simp only [hd24] at h2
            all_goals cases h2
          ·
            simp only [hd24] at h2
            refine OpsT.keep [14, 15, 16, 20, 21] (S' := [(14, .slice A12 y11.length cp13), (15, .int .i64 (y11.length : Int)), (16, .int .i64 x16), (20, .string x15), (21, .iface 53 (.int .i64 z25))]) (by (try simp only [hd24]); kernel_rfl) ?_
            obtain ⟨y29, hc28, h2⟩ := bindS h2
            try dsimp only at h2
            refine OpsT.cons (Does.invoke (nm := "cenotaph/event.show") (u := .iface 53 (.int .i64 z25)) (d := some 22) (n := 45) (vs := []) (by kernel_rfl) [.int .i64 z25] (fun _ => by kernel_rfl) (c45 w0 w _ _ hI hT z25 _ hc28) ?_)
            rintro e w ⟨rfl, hI⟩
            refine ⟨_, rfl, ?_⟩
            obtain ⟨hg30, h2⟩ := guardS h2
            refine OpsT.cons (Does.yi (Yl.cat (d := 23) (T := 9) (x := (⟨#[32]⟩ : ByteArray)) (y := y29) (by kernel_rfl) hg30) hI ?_)
            obtain ⟨hg31, h2⟩ := guardS h2
            refine OpsT.cons (Does.yi (Yl.cat (d := 24) (T := 9) (x := x15) (y := (⟨#[32]⟩ : ByteArray) ++ y29) (by kernel_rfl) hg31) hI ?_)
            refine OpsT.pures (r := []) [5] [3, 14, 15, 16] (S' := [(3, .string (x15 ++ ((⟨#[32]⟩ : ByteArray) ++ y29))), (14, .slice A12 y11.length cp13), (15, .int .i64 (y11.length : Int)), (16, .int .i64 x16)]) (by kernel_rfl) ?_
            refine OpsT.done ?_
            refine Qn.block_normal ?_
            have e := someS h2
            subst e
            exact Qn.thenJ fun a ha => ⟨x15 ++ ((⟨#[32]⟩ : ByteArray) ++ y29), rfl, ha.keep [3, 14, 15, 16] (by kernel_rfl), hI⟩
          ·
            simp only [hd24] at h2
            refine OpsT.keep [14, 15, 16, 20, 21] (S' := [(14, .slice A12 y11.length cp13), (15, .int .i64 (y11.length : Int)), (16, .int .i64 x16), (20, .string x15), (21, .iface 54 (.string z26))]) (by (try simp only [hd24]); kernel_rfl) ?_
            obtain ⟨y33, hc32, h2⟩ := bindS h2
            try dsimp only at h2
            refine OpsT.cons (Does.invoke (nm := "cenotaph/event.show") (u := .iface 54 (.string z26)) (d := some 22) (n := 61) (vs := []) (by kernel_rfl) [.string z26] (fun _ => by kernel_rfl) (c61 w0 w _ _ hI hT z26 _ hc32) ?_)
            rintro e w ⟨rfl, hI⟩
            refine ⟨_, rfl, ?_⟩
            obtain ⟨hg34, h2⟩ := guardS h2
            refine OpsT.cons (Does.yi (Yl.cat (d := 23) (T := 9) (x := (⟨#[32]⟩ : ByteArray)) (y := y33) (by kernel_rfl) hg34) hI ?_)
            obtain ⟨hg35, h2⟩ := guardS h2
            refine OpsT.cons (Does.yi (Yl.cat (d := 24) (T := 9) (x := x15) (y := (⟨#[32]⟩ : ByteArray) ++ y33) (by kernel_rfl) hg35) hI ?_)
            refine OpsT.pures (r := []) [5] [3, 14, 15, 16] (S' := [(3, .string (x15 ++ ((⟨#[32]⟩ : ByteArray) ++ y33))), (14, .slice A12 y11.length cp13), (15, .int .i64 (y11.length : Int)), (16, .int .i64 x16)]) (by kernel_rfl) ?_
            refine OpsT.done ?_
            refine Qn.block_normal ?_
            have e := someS h2
            subst e
            exact Qn.thenJ fun a ha => ⟨x15 ++ ((⟨#[32]⟩ : ByteArray) ++ y33), rfl, ha.keep [3, 14, 15, 16] (by kernel_rfl), hI⟩
          ·
            simp only [hd24] at h2
            obtain ⟨hg36, h2⟩ := guardS h2
            refine OpsT.keep [14, 15, 16, 20, 21] (S' := [(14, .slice A12 y11.length cp13), (15, .int .i64 (y11.length : Int)), (16, .int .i64 x16), (20, .string x15), (21, .iface 60 (.agg (cA (Value.int .u8) z27).toArray))]) (by (try simp only [hd24]); kernel_rfl) ?_
            obtain ⟨y38, hc37, h2⟩ := bindS h2
            try dsimp only at h2
            refine OpsT.cons (Does.invoke (nm := "cenotaph/event.show") (u := .iface 60 (.agg (cA (Value.int .u8) z27).toArray)) (d := some 22) (n := 76) (vs := []) (by kernel_rfl) [.agg (cA (Value.int .u8) z27).toArray] (fun _ => by kernel_rfl) (c76 w0 w _ _ hI hT z27 hg36 _ hc37) ?_)
            rintro e w ⟨rfl, hI⟩
            refine ⟨_, rfl, ?_⟩
            obtain ⟨hg39, h2⟩ := guardS h2
            refine OpsT.cons (Does.yi (Yl.cat (d := 23) (T := 9) (x := (⟨#[32]⟩ : ByteArray)) (y := y38) (by kernel_rfl) hg39) hI ?_)
            obtain ⟨hg40, h2⟩ := guardS h2
            refine OpsT.cons (Does.yi (Yl.cat (d := 24) (T := 9) (x := x15) (y := (⟨#[32]⟩ : ByteArray) ++ y38) (by kernel_rfl) hg40) hI ?_)
            refine OpsT.pures (r := []) [5] [3, 14, 15, 16] (S' := [(3, .string (x15 ++ ((⟨#[32]⟩ : ByteArray) ++ y38))), (14, .slice A12 y11.length cp13), (15, .int .i64 (y11.length : Int)), (16, .int .i64 x16)]) (by kernel_rfl) ?_
            refine OpsT.done ?_
            refine Qn.block_normal ?_
            have e := someS h2
            subst e
            exact Qn.thenJ fun a ha => ⟨x15 ++ ((⟨#[32]⟩ : ByteArray) ++ y38), rfl, ha.keep [3, 14, 15, 16] (by kernel_rfl), hI⟩
        ·
          rintro a w ⟨x18, rfl, ha, hI⟩
          try dsimp only at h1
          refine CodT.of ?_ ha
          refine CodT.regionL [0, 1] (by kernel_rfl) ?_
          refine OpsT.pures (r := []) [0, 1] [3, 14, 15, 16] (S' := [(3, .string x18), (14, .slice A12 y11.length cp13), (15, .int .i64 (y11.length : Int)), (16, .int .i64 (wi64 (x16 + 1)))]) (by kernel_rfl) ?_
          refine OpsT.done ?_
          exact Qn.thenJ fun a ha => ⟨k, Nat.lt_succ_self k, x18, wi64 (x16 + 1), h1, ha.keep [3, 14, 15, 16] (by kernel_rfl), hI⟩
      · rw [if_neg hb17] at h1
        refine CodT.no' (b := decide (x16 < (y11.length : Int))) (by kernel_rfl) (by simpa using hb17) ?_
        refine CodT.exit ?_
        refine Qn.exit_then ?_
        refine Qn.exit_then ?_
        refine Qn.block ?_
        have hI := hI.drop
        have e := someS h1
        subst e
        exact Qn.thenJ fun a ha => ⟨x15, rfl, ha.keep [3] (by kernel_rfl), hI⟩
    ·
      rintro a w ⟨x14, rfl, ha, hI⟩
      try dsimp only at h0
      refine Qn.of ?_ ha
      refine Qn.then ?_
      refine CodT.seq ?_
      refine CodT.regionL [0, 1] (by kernel_rfl) ?_
      refine OpsT.pures (r := []) [0, 1] [2] (S' := [(2, .string x14)]) (by kernel_rfl) ?_
      refine OpsT.done ?_
      refine Qn.then ?_
      refine CodT.ret ?_
      have e := someS h0
      subst e
      refine Qn.keep [2] (S' := [(2, .string x14)]) (by kernel_rfl) ?_
      exact post_ret (v := .string x14) (fun a ha => RunRes.run (vs := [.string x14]) (.tmp (t := 2) (by kernel_rfl) .nil) ha (by kernel_rfl)) ⟨rfl, hI⟩
set_option maxRecDepth 100000 in
set_option maxHeartbeats 4000000 in
/-- cenotaph/cenotaphlaw05.works -/
theorem c4 (w0 w : World) (Z : Hp) (A : HP) (hI : Inv w0 Z w A) (hT : Tabs Z)  (r : Bool) (h0 : law05_works = some r) :
    Calls prog 4 #[] w (fun e w' => e = .returned (.bool r) ∧ Inv w0 Z w' A) := by
  have e4 := calls_intro (R := (fun e w' => e = .returned (.bool r) ∧ Inv w0 Z w' A)) (w := w) (args := []) (fn := Go.Proofs.Try.f4) 73 Go.Proofs.Try.func4 (by rfl) Go.Proofs.Try.ntmps4 (by kernel_rfl)
  refine e4 ?_
  clear e4
  unfold law05_works at h0
  refine CodT.seq ?_
  refine CodT.regionL [0] (by kernel_rfl) ?_
  refine OpsT.pures (r := []) [0] [] (S' := []) (by kernel_rfl) ?_
  refine OpsT.done ?_
  refine Qn.then ?_
  refine CodT.seq ?_
  refine CodT.regionL [0, 1, 2] (by kernel_rfl) ?_
  refine OpsT.pures (r := [1, 2]) [0] [8] (S' := [(8, .agg (c_ApiEvent (ApiEvent.mk 0 1 (⟨#[97]⟩ : ByteArray) 0 0 (List.replicate 32 (0 : Int)))).toArray)]) (by kernel_rfl) ?_
  refine OpsT.cons (Does.allocL (d := 1) (T := 26) (c_ApiEvent (ApiEvent.mk 0 0 (⟨#[]⟩ : ByteArray) 0 0 (List.replicate 32 (0 : Int)))) (by kernel_rfl) ty26 hI (by kernel_rfl) ?_)
  intro b1 w hI
  refine OpsT.cons (Does.storeLit (T := 26) (b := b1) (o := 0) (v := .agg (c_ApiEvent (ApiEvent.mk 0 1 (⟨#[97]⟩ : ByteArray) 0 0 (List.replicate 32 (0 : Int)))).toArray) (l := c_ApiEvent (ApiEvent.mk 0 0 (⟨#[]⟩ : ByteArray) 0 0 (List.replicate 32 (0 : Int)))) (vs := c_ApiEvent (ApiEvent.mk 0 1 (⟨#[97]⟩ : ByteArray) 0 0 (List.replicate 32 (0 : Int)))) (L' := c_ApiEvent (ApiEvent.mk 0 1 (⟨#[97]⟩ : ByteArray) 0 0 (List.replicate 32 (0 : Int)))) (by kernel_rfl) ty26 hI (by kernel_rfl) (len_ApiEvent _ (by kernel_rfl)) (by rw [(len_ApiEvent _ (by kernel_rfl))]; kernel_rfl) (ones_app _ _ (by kernel_rfl) (ones_cA _)) (lset_all _ _ (Eq.trans (len_ApiEvent _ (by kernel_rfl)) (Eq.symm (len_ApiEvent _ (by kernel_rfl))))) ?_)
  intro w hI
  refine OpsT.done ?_
  refine Qn.then ?_
  refine CodT.seq ?_
  refine CodT.regionL [0, 1, 2, 3, 4, 5, 6] (by kernel_rfl) ?_
  refine OpsT.cons (Does.yi (Yl.load (d := 10) (T := 26) (v := .agg (c_ApiEvent (ApiEvent.mk 0 1 (⟨#[97]⟩ : ByteArray) 0 0 (List.replicate 32 (0 : Int)))).toArray) (by kernel_rfl) (ldBN ty26 (l := c_ApiEvent (ApiEvent.mk 0 1 (⟨#[97]⟩ : ByteArray) 0 0 (List.replicate 32 (0 : Int)))) (o := 0) (cs := c_ApiEvent (ApiEvent.mk 0 1 (⟨#[97]⟩ : ByteArray) 0 0 (List.replicate 32 (0 : Int)))) (ent_refl _) (len_ApiEvent _ (by kernel_rfl)) (whole _ _ (len_ApiEvent _ (by kernel_rfl))))) hI ?_)
  obtain ⟨⟨y3, y4⟩, hc2, h0⟩ := bindS h0
  try dsimp only at h0
  refine OpsT.cons (Does.call (d := some 11) (n := 5) (vs := [.agg (c_ApiEvent (ApiEvent.mk 0 1 (⟨#[97]⟩ : ByteArray) 0 0 (List.replicate 32 (0 : Int)))).toArray]) (by kernel_rfl) en5 (c5 w0 w _ _ hI hT (ApiEvent.mk 0 1 (⟨#[97]⟩ : ByteArray) 0 0 (List.replicate 32 (0 : Int))) (by kernel_rfl) _ hc2) ?_)
  rintro e w ⟨rfl, hI⟩
  refine ⟨_, rfl, ?_⟩
  refine OpsT.pures (r := []) [2, 3, 4, 5, 6] [1, 2, 3] (S' := [(1, .pointer (some ⟨b1, 0, none⟩)), (2, .string y3), (3, .bool y4)]) (by kernel_rfl) ?_
  refine OpsT.done ?_
  refine Qn.then ?_
  refine CodT.seq ?_
  refine CodT.regionL [0, 1, 2, 3, 4, 5, 6, 7, 8, 9, 10] (by kernel_rfl) ?_
  refine OpsT.pures (r := [1, 2, 3, 4, 5, 6, 7, 8, 9, 10]) [0] [1, 2, 3, 15] (S' := [(1, .pointer (some ⟨b1, 0, none⟩)), (2, .string y3), (3, .bool y4), (15, .string y3)]) (by kernel_rfl) ?_
  obtain ⟨hg5, h0⟩ := guardS h0
  refine OpsT.cons (Does.yi (Yl.cat (d := 16) (T := 9) (x := y3) (y := (⟨#[122]⟩ : ByteArray)) (by kernel_rfl) hg5) hI ?_)
  obtain ⟨⟨y7, y9, y10⟩, hc6, h0⟩ := bindS h0
  try dsimp only at h0
  refine OpsT.cons (Does.call (d := some 17) (n := 7) (vs := [.string (y3 ++ (⟨#[122]⟩ : ByteArray))]) (by kernel_rfl) en7 (c7 w0 w _ _ hI hT (y3 ++ (⟨#[122]⟩ : ByteArray)) _ hc6) ?_)
  rintro e w ⟨rfl, hl8, hI⟩
  refine ⟨_, rfl, ?_⟩
  refine OpsT.pures (r := [7, 8, 9, 10]) [3, 4, 5, 6] [1, 2, 3, 18, 19, 20] (S' := [(1, .pointer (some ⟨b1, 0, none⟩)), (2, .string y3), (3, .bool y4), (18, .agg (c_ApiEvent y7).toArray), (19, .string y9), (20, .bool y10)]) (by kernel_rfl) ?_
  refine OpsT.cons (Does.allocL (d := 4) (T := 26) (c_ApiEvent (ApiEvent.mk 0 0 (⟨#[]⟩ : ByteArray) 0 0 (List.replicate 32 (0 : Int)))) (by kernel_rfl) ty26 hI (by kernel_rfl) ?_)
  intro b11 w hI
  refine OpsT.cons (Does.storeLit (T := 26) (b := b11) (o := 0) (v := .agg (c_ApiEvent y7).toArray) (l := c_ApiEvent (ApiEvent.mk 0 0 (⟨#[]⟩ : ByteArray) 0 0 (List.replicate 32 (0 : Int)))) (vs := c_ApiEvent y7) (L' := c_ApiEvent y7) (by kernel_rfl) ty26 hI (by kernel_rfl) (len_ApiEvent _ hl8) (by rw [(len_ApiEvent _ (by kernel_rfl))]; kernel_rfl) (ones_app _ _ (by kernel_rfl) (ones_cA _)) (lset_all _ _ (Eq.trans (len_ApiEvent _ hl8) (Eq.symm (len_ApiEvent _ (by kernel_rfl))))) ?_)
  intro w hI
  refine OpsT.pures (r := []) [9, 10] [1, 2, 3, 4, 5, 6] (S' := [(1, .pointer (some ⟨b1, 0, none⟩)), (2, .string y3), (3, .bool y4), (4, .pointer (some ⟨b11, 0, none⟩)), (5, .string y9), (6, .bool y10)]) (by kernel_rfl) ?_
  refine OpsT.done ?_
  refine Qn.then ?_
  refine CodT.seq ?_
  refine CodT.regionL [0, 1, 2, 3, 4, 5] (by kernel_rfl) ?_
  refine OpsT.cons (Does.yi (Yl.load (d := 21) (T := 26) (v := .agg (c_ApiEvent (ApiEvent.mk 0 1 (⟨#[97]⟩ : ByteArray) 0 0 (List.replicate 32 (0 : Int)))).toArray) (by kernel_rfl) (ldBN ty26 (l := c_ApiEvent (ApiEvent.mk 0 1 (⟨#[97]⟩ : ByteArray) 0 0 (List.replicate 32 (0 : Int)))) (o := 0) (cs := c_ApiEvent (ApiEvent.mk 0 1 (⟨#[97]⟩ : ByteArray) 0 0 (List.replicate 32 (0 : Int)))) (pick2 _ _ _) (len_ApiEvent _ (by kernel_rfl)) (whole _ _ (len_ApiEvent _ (by kernel_rfl))))) hI ?_)
  refine OpsT.pures (r := [3, 4, 5]) [1, 2] [1, 2, 3, 4, 5, 6, 21, 22, 23] (S' := [(1, .pointer (some ⟨b1, 0, none⟩)), (2, .string y3), (3, .bool y4), (4, .pointer (some ⟨b11, 0, none⟩)), (5, .string y9), (6, .bool y10), (21, .agg (c_ApiEvent (ApiEvent.mk 0 1 (⟨#[97]⟩ : ByteArray) 0 0 (List.replicate 32 (0 : Int)))).toArray), (22, .agg (c_ApiEvent (ApiEvent.mk 7 0 (⟨#[]⟩ : ByteArray) 0 0 (List.replicate 32 (0 : Int)))).toArray), (23, .agg (c_ApiEvent (ApiEvent.mk 6 1 (⟨#[]⟩ : ByteArray) 0 0 (List.replicate 32 (0 : Int)))).toArray)]) (by kernel_rfl) ?_
  refine OpsT.cons (Does.buildSliceAll (en := c_ApiEvent) (d := 24) (n := 3) (T := 36) (ps := [(0, .agg (c_ApiEvent (ApiEvent.mk 0 1 (⟨#[97]⟩ : ByteArray) 0 0 (List.replicate 32 (0 : Int)))).toArray), (1, .agg (c_ApiEvent (ApiEvent.mk 7 0 (⟨#[]⟩ : ByteArray) 0 0 (List.replicate 32 (0 : Int)))).toArray), (2, .agg (c_ApiEvent (ApiEvent.mk 6 1 (⟨#[]⟩ : ByteArray) 0 0 (List.replicate 32 (0 : Int)))).toArray)]) (fun y => .agg (c_ApiEvent y).toArray) (fun _ => rfl) ([(ApiEvent.mk 0 1 (⟨#[97]⟩ : ByteArray) 0 0 (List.replicate 32 (0 : Int))), (ApiEvent.mk 7 0 (⟨#[]⟩ : ByteArray) 0 0 (List.replicate 32 (0 : Int))), (ApiEvent.mk 6 1 (⟨#[]⟩ : ByteArray) 0 0 (List.replicate 32 (0 : Int)))] : List ApiEvent) (by kernel_rfl) rfl Go.Proofs.Try.underlying36 ty26 rfl (by kernel_rfl) (by kernel_rfl) (by decide +kernel) (List.forall_mem_cons.2 ⟨(len_ApiEvent _ (by kernel_rfl)), (List.forall_mem_cons.2 ⟨(len_ApiEvent _ (by kernel_rfl)), (List.forall_mem_cons.2 ⟨(len_ApiEvent _ (by kernel_rfl)), (fun _ h => by cases h)⟩)⟩)⟩) hI ?_)
  intro b12 w hI
  obtain ⟨Z13, hle14, hr15, hI⟩ := ownS_freeze hI
  obtain ⟨y17, hc16, h0⟩ := bindS h0
  try dsimp only at h0
  refine OpsT.cons (Does.call (d := some 25) (n := 8) (vs := [.slice (some ⟨b12, 0, none⟩) (([(ApiEvent.mk 0 1 (⟨#[97]⟩ : ByteArray) 0 0 (List.replicate 32 (0 : Int))), (ApiEvent.mk 7 0 (⟨#[]⟩ : ByteArray) 0 0 (List.replicate 32 (0 : Int))), (ApiEvent.mk 6 1 (⟨#[]⟩ : ByteArray) 0 0 (List.replicate 32 (0 : Int)))] : List ApiEvent).length) 3]) (by kernel_rfl) en8 (c8 w0 w _ _ hI (hT.mono hle14) (some ⟨b12, 0, none⟩) 3 ([(ApiEvent.mk 0 1 (⟨#[97]⟩ : ByteArray) 0 0 (List.replicate 32 (0 : Int))), (ApiEvent.mk 7 0 (⟨#[]⟩ : ByteArray) 0 0 (List.replicate 32 (0 : Int))), (ApiEvent.mk 6 1 (⟨#[]⟩ : ByteArray) 0 0 (List.replicate 32 (0 : Int)))] : List ApiEvent) hr15 _ hc16) ?_)
  rintro e w ⟨A18, cp19, rfl, hI⟩
  refine ⟨_, rfl, ?_⟩
  refine OpsT.pures (r := []) [5] [1, 2, 3, 4, 5, 6, 7] (S' := [(1, .pointer (some ⟨b1, 0, none⟩)), (2, .string y3), (3, .bool y4), (4, .pointer (some ⟨b11, 0, none⟩)), (5, .string y9), (6, .bool y10), (7, .slice A18 y17.length cp19)]) (by kernel_rfl) ?_
  refine OpsT.done ?_
  refine Qn.then ?_
  obtain ⟨r1, h1, h0⟩ := bindS h0
  refine CodT.meet (fun a w => ∃ (x20 : Bool), x20 = r1 ∧ Fr 73 [(0, .bool x20)] a ∧ Inv w0 Z13 w A) ?_ ?_
  ·
    refine CodT.drawI (n := 48) [] (by kernel_rfl) (by kernel_rfl) hI ?_
    intro w hI
    refine GmT.p' 0 26 (.string y3) (by kernel_rfl) (by kernel_rfl) ?_
    refine GmT.o (i := 1) (by kernel_rfl) (Does.buildSlice (en := (cI .u8)) (d := 27) (n := 4) (T := 37) (ps := [(0, .int .u8 0), (1, .int .u8 1), (2, .int .u8 1), (3, .int .u8 97)]) ([0, 1, 1, 97] : List Int) (by kernel_rfl) Go.Proofs.Try.underlying37 ty5 (by kernel_rfl) (by kernel_rfl) (by kernel_rfl) (by kernel_rfl) (len_all (fun _ => rfl)) hI ?_)
    intro b21 w hI
    have hC := hI
    have hC := hC.drop
    refine ⟨fun _ _ => hC, ?_⟩
    refine GmT.o (i := 2) (by kernel_rfl) (Does.b2sOwn (d := 28) (src := 37) (dst := 9) (xs := ([0, 1, 1, 97] : List Int)) (by kernel_rfl) Go.Proofs.Try.underlying37 Go.Proofs.Try.underlying5 Go.Proofs.Try.underlying9 hI ?_)
    have hC := hI
    have hC := hC.drop
    refine ⟨fun _ _ => hC, ?_⟩
    refine GmT.p' 3 29 (.bool (seq y3 (strOfNums ([0, 1, 1, 97] : List Int)))) (by kernel_rfl) (by kernel_rfl) ?_
    refine GmT.p' 4 30 (.bool (seq y3 (strOfNums ([0, 1, 1, 97] : List Int)))) (by kernel_rfl) (by kernel_rfl) ?_
    by_cases hb22 : (seq y3 (strOfNums ([0, 1, 1, 97] : List Int))) = true
    · rw [if_pos hb22] at h1
      refine GmT.keep [1, 3, 4, 5, 6, 7, 30] (S' := [(1, .pointer (some ⟨b1, 0, none⟩)), (3, .bool y4), (4, .pointer (some ⟨b11, 0, none⟩)), (5, .string y9), (6, .bool y10), (7, .slice A18 y17.length cp19), (30, .bool true)]) (by (try simp only [hb22]); kernel_rfl) ?_
      refine GmT.p' 5 31 (.bool y4) (by kernel_rfl) (by kernel_rfl) ?_
      refine GmT.p' 6 32 (.bool y4) (by kernel_rfl) (by kernel_rfl) ?_
      refine GmT.p' 7 33 (.bool y4) (by kernel_rfl) (by kernel_rfl) ?_
      by_cases hb23 : y4 = true
      · rw [if_pos hb23] at h1
        refine GmT.keep [1, 4, 5, 6, 7, 33] (S' := [(1, .pointer (some ⟨b1, 0, none⟩)), (4, .pointer (some ⟨b11, 0, none⟩)), (5, .string y9), (6, .bool y10), (7, .slice A18 y17.length cp19), (33, .bool true)]) (by (try simp only [hb23]); kernel_rfl) ?_
        have hC := hI
        have hC := hC.drop
        refine GmT.r (i := 8) 2 (by kernel_rfl) (by kernel_rfl) (Yl.load (d := 34) (T := 26) (v := .agg (c_ApiEvent y7).toArray) (by kernel_rfl) (ldBN ty26 (l := c_ApiEvent y7) (o := 0) (cs := c_ApiEvent y7) (pick2 _ _ _) (len_ApiEvent _ hl8) (whole _ _ (len_ApiEvent _ hl8)))) hC ?_
        have hC := hI
        have hC := hC.drop
        refine GmT.r (i := 9) 2 (by kernel_rfl) (by kernel_rfl) (Yl.load (d := 35) (T := 26) (v := .agg (c_ApiEvent (ApiEvent.mk 0 1 (⟨#[97]⟩ : ByteArray) 0 0 (List.replicate 32 (0 : Int)))).toArray) (by kernel_rfl) (ldBN ty26 (l := c_ApiEvent (ApiEvent.mk 0 1 (⟨#[97]⟩ : ByteArray) 0 0 (List.replicate 32 (0 : Int)))) (o := 0) (cs := c_ApiEvent (ApiEvent.mk 0 1 (⟨#[97]⟩ : ByteArray) 0 0 (List.replicate 32 (0 : Int)))) (pick3 _ _ _ _) (len_ApiEvent _ (by kernel_rfl)) (whole _ _ (len_ApiEvent _ (by kernel_rfl))))) hC ?_
        have hC := hI
        have hC := hC.drop
        refine GmT.r (i := 10) 2 (by kernel_rfl) (by kernel_rfl) (Yl.eqlS (d := 36) (T := 26) (xs := ([.int .i64 y7.Kind, .int .i64 y7.ID, .string y7.Name, .int .i64 y7.Time, .int .i64 y7.Len] : List Value) ++ (cA (Value.int .u8) y7.Sum)) (ys := ([.int .i64 0, .int .i64 1, .string (⟨#[97]⟩ : ByteArray), .int .i64 0, .int .i64 0] : List Value) ++ (cA (Value.int .u8) (List.replicate 32 (0 : Int)))) (r := eq_ApiEvent y7 (ApiEvent.mk 0 1 (⟨#[97]⟩ : ByteArray) 0 0 (List.replicate 32 (0 : Int)))) (by kernel_rfl) Go.Proofs.Try.underlying26 (by kernel_rfl) (by kernel_rfl) (.cons rfl (part1 (v := .int .i64 y7.Kind) ty22 (by kernel_rfl)) (part1 (v := .int .i64 0) ty22 (by kernel_rfl)) (eqI Go.Proofs.Try.underlying22) (.cons rfl (part1 (v := .int .i64 y7.ID) ty3 (by kernel_rfl)) (part1 (v := .int .i64 1) ty3 (by kernel_rfl)) (eqI Go.Proofs.Try.underlying3) (.cons rfl (part1 (v := .string y7.Name) ty9 (by kernel_rfl)) (part1 (v := .string (⟨#[97]⟩ : ByteArray)) ty9 (by kernel_rfl)) (eqS Go.Proofs.Try.underlying9) (.cons rfl (part1 (v := .int .i64 y7.Time) ty3 (by kernel_rfl)) (part1 (v := .int .i64 0) ty3 (by kernel_rfl)) (eqI Go.Proofs.Try.underlying3) (.cons rfl (part1 (v := .int .i64 y7.Len) ty3 (by kernel_rfl)) (part1 (v := .int .i64 0) ty3 (by kernel_rfl)) (eqI Go.Proofs.Try.underlying3) (.cons rfl (partN ty24 (tail_take _ _ _ _ _ (by kernel_rfl) hl8)) (partN ty24 (tail_take _ _ _ _ _ (by kernel_rfl) (by kernel_rfl))) (eqAr Go.Proofs.Try.underlying24 Go.Proofs.Try.underlying5 ty5 hl8 (by kernel_rfl)) .nil))))))) hC ?_
        refine GmT.p' 11 37 (.bool (eq_ApiEvent y7 (ApiEvent.mk 0 1 (⟨#[97]⟩ : ByteArray) 0 0 (List.replicate 32 (0 : Int))))) (by kernel_rfl) (by kernel_rfl) ?_
        refine GmT.p' 12 38 (.bool (eq_ApiEvent y7 (ApiEvent.mk 0 1 (⟨#[97]⟩ : ByteArray) 0 0 (List.replicate 32 (0 : Int))))) (by kernel_rfl) (by kernel_rfl) ?_
        by_cases hb24 : (eq_ApiEvent y7 (ApiEvent.mk 0 1 (⟨#[97]⟩ : ByteArray) 0 0 (List.replicate 32 (0 : Int)))) = true
        · rw [if_pos hb24] at h1
          refine GmT.keep [1, 5, 6, 7, 38] (S' := [(1, .pointer (some ⟨b1, 0, none⟩)), (5, .string y9), (6, .bool y10), (7, .slice A18 y17.length cp19), (38, .bool true)]) (by (try simp only [hb24]); kernel_rfl) ?_
          refine GmT.p' 13 39 (.string y9) (by kernel_rfl) (by kernel_rfl) ?_
          refine GmT.p' 14 40 (.bool (seq y9 (⟨#[122]⟩ : ByteArray))) (by kernel_rfl) (by kernel_rfl) ?_
          refine GmT.p' 15 41 (.bool (seq y9 (⟨#[122]⟩ : ByteArray))) (by kernel_rfl) (by kernel_rfl) ?_
          refine GmT.p' 16 42 (.bool (seq y9 (⟨#[122]⟩ : ByteArray))) (by kernel_rfl) (by kernel_rfl) ?_
          by_cases hb25 : (seq y9 (⟨#[122]⟩ : ByteArray)) = true
          · rw [if_pos hb25] at h1
            refine GmT.keep [1, 6, 7, 42] (S' := [(1, .pointer (some ⟨b1, 0, none⟩)), (6, .bool y10), (7, .slice A18 y17.length cp19), (42, .bool true)]) (by (try simp only [hb25]); kernel_rfl) ?_
            refine GmT.p' 17 43 (.bool y10) (by kernel_rfl) (by kernel_rfl) ?_
            refine GmT.p' 18 44 (.bool y10) (by kernel_rfl) (by kernel_rfl) ?_
            refine GmT.p' 19 45 (.bool y10) (by kernel_rfl) (by kernel_rfl) ?_
            by_cases hb26 : y10 = true
            · rw [if_pos hb26] at h1
              refine GmT.keep [1, 7, 45] (S' := [(1, .pointer (some ⟨b1, 0, none⟩)), (7, .slice A18 y17.length cp19), (45, .bool true)]) (by (try simp only [hb26]); kernel_rfl) ?_
              have hC := hI
              have hC := hC.drop
              refine GmT.r (i := 20) 2 (by kernel_rfl) (by kernel_rfl) (Yl.load (d := 46) (T := 26) (v := .agg (c_ApiEvent (ApiEvent.mk 0 1 (⟨#[97]⟩ : ByteArray) 0 0 (List.replicate 32 (0 : Int)))).toArray) (by kernel_rfl) (ldBN ty26 (l := c_ApiEvent (ApiEvent.mk 0 1 (⟨#[97]⟩ : ByteArray) 0 0 (List.replicate 32 (0 : Int)))) (o := 0) (cs := c_ApiEvent (ApiEvent.mk 0 1 (⟨#[97]⟩ : ByteArray) 0 0 (List.replicate 32 (0 : Int)))) (pick3 _ _ _ _) (len_ApiEvent _ (by kernel_rfl)) (whole _ _ (len_ApiEvent _ (by kernel_rfl))))) hC ?_
              refine GmT.several [21, 22] (by kernel_rfl) rfl ?_
              intro i hi; simp only [List.mem_cons, List.not_mem_nil, or_false] at hi; rcases hi with rfl | rfl
              ·
                obtain ⟨y28, hc27, h1⟩ := bindS h1
                try dsimp only at h1
                rw [lst_set]
                refine (Does.call (d := some 47) (n := 6) (vs := [.agg (c_ApiEvent (ApiEvent.mk 0 1 (⟨#[97]⟩ : ByteArray) 0 0 (List.replicate 32 (0 : Int)))).toArray]) (by kernel_rfl) en6 (c6 w0 w _ _ hI (hT.mono hle14) (ApiEvent.mk 0 1 (⟨#[97]⟩ : ByteArray) 0 0 (List.replicate 32 (0 : Int))) (by kernel_rfl) _ hc27) ?_)
                rintro e w ⟨rfl, hI⟩
                refine ⟨_, rfl, ?_⟩
                have hC := hI
                have hC := hC.drop
                refine ⟨fun _ _ => hC, ?_⟩
                refine GmT.o (i := 22) (by kernel_rfl) (Does.buildSlice (en := (cI .u8)) (d := 48) (n := 3) (T := 37) (ps := [(0, .int .u8 34), (1, .int .u8 97), (2, .int .u8 34)]) ([34, 97, 34] : List Int) (by kernel_rfl) Go.Proofs.Try.underlying37 ty5 (by kernel_rfl) (by kernel_rfl) (by kernel_rfl) (by kernel_rfl) (len_all (fun _ => rfl)) hI ?_)
                intro b29 w hI
                have hC := hI
                have hC := hC.drop
                have hC := hC.drop
                refine ⟨fun _ _ => hC, ?_⟩
                refine GmT.o (i := 23) (by kernel_rfl) (Does.b2sOwn (d := 49) (src := 37) (dst := 9) (xs := ([34, 97, 34] : List Int)) (by kernel_rfl) Go.Proofs.Try.underlying37 Go.Proofs.Try.underlying5 Go.Proofs.Try.underlying9 hI ?_)
                have hC := hI
                have hC := hC.drop
                have hC := hC.drop
                refine ⟨fun _ _ => hC, ?_⟩
                obtain ⟨hg30, h1⟩ := guardS h1
                have hC := hI
                have hC := hC.drop
                have hC := hC.drop
                refine GmT.r (i := 24) 2 (by kernel_rfl) (by kernel_rfl) (Yl.cat (d := 50) (T := 9) (x := (⟨#[99, 114, 101, 97, 116, 101, 32, 49, 32]⟩ : ByteArray)) (y := strOfNums ([34, 97, 34] : List Int)) (by kernel_rfl) hg30) hC ?_
                refine GmT.p' 25 51 (.bool (seq y28 ((⟨#[99, 114, 101, 97, 116, 101, 32, 49, 32]⟩ : ByteArray) ++ (strOfNums ([34, 97, 34] : List Int))))) (by kernel_rfl) (by kernel_rfl) ?_
                refine GmT.p' 26 52 (.bool (seq y28 ((⟨#[99, 114, 101, 97, 116, 101, 32, 49, 32]⟩ : ByteArray) ++ (strOfNums ([34, 97, 34] : List Int))))) (by kernel_rfl) (by kernel_rfl) ?_
                refine GmT.p' 27 53 (.bool (seq y28 ((⟨#[99, 114, 101, 97, 116, 101, 32, 49, 32]⟩ : ByteArray) ++ (strOfNums ([34, 97, 34] : List Int))))) (by kernel_rfl) (by kernel_rfl) ?_
                by_cases hb31 : (seq y28 ((⟨#[99, 114, 101, 97, 116, 101, 32, 49, 32]⟩ : ByteArray) ++ (strOfNums ([34, 97, 34] : List Int)))) = true
                · rw [if_pos hb31] at h1
                  refine GmT.keep [1, 7, 53] (S' := [(1, .pointer (some ⟨b1, 0, none⟩)), (7, .slice A18 y17.length cp19), (53, .bool true)]) (by (try simp only [hb31]); kernel_rfl) ?_
                  have hC := hI
                  have hC := hC.drop
                  have hC := hC.drop
                  refine GmT.r (i := 28) 2 (by kernel_rfl) (by kernel_rfl) (Yl.load (d := 54) (T := 26) (v := .agg (c_ApiEvent (ApiEvent.mk 0 1 (⟨#[97]⟩ : ByteArray) 0 0 (List.replicate 32 (0 : Int)))).toArray) (by kernel_rfl) (ldBN ty26 (l := c_ApiEvent (ApiEvent.mk 0 1 (⟨#[97]⟩ : ByteArray) 0 0 (List.replicate 32 (0 : Int)))) (o := 0) (cs := c_ApiEvent (ApiEvent.mk 0 1 (⟨#[97]⟩ : ByteArray) 0 0 (List.replicate 32 (0 : Int)))) (pick3 _ _ _ _) (len_ApiEvent _ (by kernel_rfl)) (whole _ _ (len_ApiEvent _ (by kernel_rfl))))) hC ?_
                  obtain ⟨y33, hc32, h1⟩ := bindS h1
                  try dsimp only at h1
                  refine GmT.o (i := 29) (by kernel_rfl) (Does.call (d := some 55) (n := 9) (vs := [.agg (c_ApiEvent (ApiEvent.mk 0 1 (⟨#[97]⟩ : ByteArray) 0 0 (List.replicate 32 (0 : Int)))).toArray]) (by kernel_rfl) en9 (c9 w0 w _ _ hI (hT.mono hle14) (ApiEvent.mk 0 1 (⟨#[97]⟩ : ByteArray) 0 0 (List.replicate 32 (0 : Int))) (by kernel_rfl) _ hc32) ?_)
                  rintro e w ⟨rfl, hI⟩
                  refine ⟨_, rfl, ?_⟩
                  have hC := hI
                  have hC := hC.drop
                  have hC := hC.drop
                  refine ⟨fun _ _ => hC, ?_⟩
                  refine GmT.p' 30 56 (.bool y33) (by kernel_rfl) (by kernel_rfl) ?_
                  refine GmT.p' 31 57 (.bool y33) (by kernel_rfl) (by kernel_rfl) ?_
                  by_cases hb34 : y33 = true
                  · rw [if_pos hb34] at h1
                    refine GmT.keep [7, 57] (S' := [(7, .slice A18 y17.length cp19), (57, .bool true)]) (by (try simp only [hb34]); kernel_rfl) ?_
                    refine GmT.p' 32 58 (.agg (c_ApiEvent (ApiEvent.mk 0 0 (⟨#[]⟩ : ByteArray) 0 0 (List.replicate 32 (0 : Int)))).toArray) (by kernel_rfl) (by kernel_rfl) ?_
                    obtain ⟨y36, hc35, h1⟩ := bindS h1
                    try dsimp only at h1
                    refine GmT.o (i := 33) (by kernel_rfl) (Does.call (d := some 59) (n := 9) (vs := [.agg (c_ApiEvent (ApiEvent.mk 0 0 (⟨#[]⟩ : ByteArray) 0 0 (List.replicate 32 (0 : Int)))).toArray]) (by kernel_rfl) en9 (c9 w0 w _ _ hI (hT.mono hle14) (ApiEvent.mk 0 0 (⟨#[]⟩ : ByteArray) 0 0 (List.replicate 32 (0 : Int))) (by kernel_rfl) _ hc35) ?_)
                    rintro e w ⟨rfl, hI⟩
                    refine ⟨_, rfl, ?_⟩
                    have hC := hI
                    have hC := hC.drop
                    have hC := hC.drop
                    refine ⟨fun _ _ => hC, ?_⟩
                    refine GmT.p' 34 60 (.bool (!y36)) (by kernel_rfl) (by kernel_rfl) ?_
                    refine GmT.p' 35 61 (.bool (!y36)) (by kernel_rfl) (by kernel_rfl) ?_
                    refine GmT.p' 36 62 (.bool (!y36)) (by kernel_rfl) (by kernel_rfl) ?_
                    by_cases hb37 : (!y36) = true
                    · rw [if_pos hb37] at h1
                      refine GmT.keep [7, 62] (S' := [(7, .slice A18 y17.length cp19), (62, .bool true)]) (by (try simp only [hb37]); kernel_rfl) ?_
                      refine GmT.p' 37 63 (.slice A18 y17.length cp19) (by kernel_rfl) (by kernel_rfl) ?_
                      refine GmT.p' 38 64 (.int .i64 (y17.length : Int)) (by kernel_rfl) (by kernel_rfl) ?_
                      refine GmT.p' 39 65 (.bool ((y17.length : Int) == 3)) (by kernel_rfl) (by kernel_rfl) ?_
                      refine GmT.p' 40 66 (.bool ((y17.length : Int) == 3)) (by kernel_rfl) (by kernel_rfl) ?_
                      refine GmT.p' 41 67 (.bool ((y17.length : Int) == 3)) (by kernel_rfl) (by kernel_rfl) ?_
                      by_cases hb38 : ((y17.length : Int) == 3) = true
                      · rw [if_pos hb38] at h1
                        refine GmT.keep [7, 67] (S' := [(7, .slice A18 y17.length cp19), (67, .bool true)]) (by (try simp only [hb38]); kernel_rfl) ?_
                        refine GmT.p' 42 68 (.slice A18 y17.length cp19) (by kernel_rfl) (by kernel_rfl) ?_
                        obtain ⟨hg39, h1⟩ := guardS h1
                        obtain ⟨g40, hA41, hr42, hl43⟩ := ownS_get (hI.mono (pick3 _ _ _ _)) hg39.1 hg39.2
                        have hC := hI
                        have hC := hC.drop
                        have hC := hC.drop
                        refine GmT.r (i := 43) 2 (by kernel_rfl) (by kernel_rfl) (Yl.indexSlice (d := 69) (T := 34) (cc := cp19) (k := .i64) (j := 2) (g := g40) (o := 0) (by kernel_rfl) Go.Proofs.Try.underlying34 ty3 hA41 hg39.1 hg39.2) hC ?_
                        have hC := hI
                        have hC := hC.drop
                        have hC := hC.drop
                        refine GmT.r (i := 44) 2 (by kernel_rfl) (by kernel_rfl) (Yl.load (d := 70) (T := 3) (v := .int .i64 (gt y17 2)) (by kernel_rfl) (ldR ty3 (v := .int .i64 (gt y17 2)) 0 (fun w hC => hr42 w0 w _ hC) (by kernel_rfl))) hC ?_
                        refine GmT.p' 45 71 (.bool ((gt y17 2) == 1)) (by kernel_rfl) (by kernel_rfl) ?_
                        refine GmT.p' 46 72 (.bool ((gt y17 2) == 1)) (by kernel_rfl) (by kernel_rfl) ?_
                        refine GmT.p' 47 0 (.bool ((gt y17 2) == 1)) (by kernel_rfl) (by kernel_rfl) ?_
                        refine GmT.done (by kernel_rfl) ?_
                        have hI := hI.drop
                        have hI := hI.drop
                        have hI := hI.drop
                        have hI := hI.drop
                        have hI := hI.drop
                        have e := someS h1
                        subst e
                        exact Qn.thenJ fun a ha => ⟨(gt y17 2) == 1, rfl, ha.keep [0] (by kernel_rfl), hI⟩
                      · rw [if_neg hb38] at h1
                        have hb38 : ((y17.length : Int) == 3) = false := by simpa using hb38
                        refine GmT.keep [7, 67] (S' := [(7, .slice A18 y17.length cp19), (67, .bool false)]) (by (try simp only [hb38]); kernel_rfl) ?_
                        refine GmT.p' 42 68 (undef) (by kernel_rfl) (by kernel_rfl) ?_
                        refine GmT.p' 43 69 (undef) (by kernel_rfl) (by kernel_rfl) ?_
                        refine GmT.p' 44 70 (undef) (by kernel_rfl) (by kernel_rfl) ?_
                        refine GmT.p' 45 71 (undef) (by kernel_rfl) (by kernel_rfl) ?_
                        refine GmT.p' 46 72 (.bool false) (by kernel_rfl) (by kernel_rfl) ?_
                        refine GmT.p' 47 0 (.bool false) (by kernel_rfl) (by kernel_rfl) ?_
                        refine GmT.done (by kernel_rfl) ?_
                        have hI := hI.drop
                        have hI := hI.drop
                        have hI := hI.drop
                        have hI := hI.drop
                        have hI := hI.drop
                        have e := someS h1
                        subst e
                        exact Qn.thenJ fun a ha => ⟨false, rfl, ha.keep [0] (by kernel_rfl), hI⟩
                    · rw [if_neg hb37] at h1
                      have hb37 : (!y36) = false := by simpa using hb37
                      refine GmT.keep [7, 62] (S' := [(7, .slice A18 y17.length cp19), (62, .bool false)]) (by (try simp only [hb37]); kernel_rfl) ?_
                      refine GmT.p' 37 63 (undef) (by kernel_rfl) (by kernel_rfl) ?_
                      refine GmT.p' 38 64 (undef) (by kernel_rfl) (by kernel_rfl) ?_
                      refine GmT.p' 39 65 (undef) (by kernel_rfl) (by kernel_rfl) ?_
                      refine GmT.p' 40 66 (.bool false) (by kernel_rfl) (by kernel_rfl) ?_
                      refine GmT.p' 41 67 (.bool false) (by kernel_rfl) (by kernel_rfl) ?_
                      refine GmT.p' 42 68 (undef) (by kernel_rfl) (by kernel_rfl) ?_
                      refine GmT.p' 43 69 (undef) (by kernel_rfl) (by kernel_rfl) ?_
                      refine GmT.p' 44 70 (undef) (by kernel_rfl) (by kernel_rfl) ?_
                      refine GmT.p' 45 71 (undef) (by kernel_rfl) (by kernel_rfl) ?_
                      refine GmT.p' 46 72 (.bool false) (by kernel_rfl) (by kernel_rfl) ?_
                      refine GmT.p' 47 0 (.bool false) (by kernel_rfl) (by kernel_rfl) ?_
                      refine GmT.done (by kernel_rfl) ?_
                      have hI := hI.drop
                      have hI := hI.drop
                      have hI := hI.drop
                      have hI := hI.drop
                      have hI := hI.drop
                      have e := someS h1
                      subst e
                      exact Qn.thenJ fun a ha => ⟨false, rfl, ha.keep [0] (by kernel_rfl), hI⟩
                  · rw [if_neg hb34] at h1
                    have hb34 : y33 = false := by simpa using hb34
                    refine GmT.keep [7, 57] (S' := [(7, .slice A18 y17.length cp19), (57, .bool false)]) (by (try simp only [hb34]); kernel_rfl) ?_
                    refine GmT.p' 32 58 (undef) (by kernel_rfl) (by kernel_rfl) ?_
                    refine GmT.p' 33 59 (undef) (by kernel_rfl) (by kernel_rfl) ?_
                    refine GmT.p' 34 60 (undef) (by kernel_rfl) (by kernel_rfl) ?_
                    refine GmT.p' 35 61 (.bool false) (by kernel_rfl) (by kernel_rfl) ?_
                    refine GmT.p' 36 62 (.bool false) (by kernel_rfl) (by kernel_rfl) ?_
                    refine GmT.p' 37 63 (undef) (by kernel_rfl) (by kernel_rfl) ?_
                    refine GmT.p' 38 64 (undef) (by kernel_rfl) (by kernel_rfl) ?_
                    refine GmT.p' 39 65 (undef) (by kernel_rfl) (by kernel_rfl) ?_
                    refine GmT.p' 40 66 (.bool false) (by kernel_rfl) (by kernel_rfl) ?_
                    refine GmT.p' 41 67 (.bool false) (by kernel_rfl) (by kernel_rfl) ?_
                    refine GmT.p' 42 68 (undef) (by kernel_rfl) (by kernel_rfl) ?_
                    refine GmT.p' 43 69 (undef) (by kernel_rfl) (by kernel_rfl) ?_
                    refine GmT.p' 44 70 (undef) (by kernel_rfl) (by kernel_rfl) ?_
                    refine GmT.p' 45 71 (undef) (by kernel_rfl) (by kernel_rfl) ?_
                    refine GmT.p' 46 72 (.bool false) (by kernel_rfl) (by kernel_rfl) ?_
                    refine GmT.p' 47 0 (.bool false) (by kernel_rfl) (by kernel_rfl) ?_
                    refine GmT.done (by kernel_rfl) ?_
                    have hI := hI.drop
                    have hI := hI.drop
                    have hI := hI.drop
                    have hI := hI.drop
                    have hI := hI.drop
                    have e := someS h1
                    subst e
                    exact Qn.thenJ fun a ha => ⟨false, rfl, ha.keep [0] (by kernel_rfl), hI⟩
                · rw [if_neg hb31] at h1
                  have hb31 : (seq y28 ((⟨#[99, 114, 101, 97, 116, 101, 32, 49, 32]⟩ : ByteArray) ++ (strOfNums ([34, 97, 34] : List Int)))) = false := by simpa using hb31
                  refine GmT.keep [1, 7, 53] (S' := [(1, .pointer (some ⟨b1, 0, none⟩)), (7, .slice A18 y17.length cp19), (53, .bool false)]) (by (try simp only [hb31]); kernel_rfl) ?_
                  refine GmT.p' 28 54 (undef) (by kernel_rfl) (by kernel_rfl) ?_
                  refine GmT.p' 29 55 (undef) (by kernel_rfl) (by kernel_rfl) ?_
                  refine GmT.p' 30 56 (.bool false) (by kernel_rfl) (by kernel_rfl) ?_
                  refine GmT.p' 31 57 (.bool false) (by kernel_rfl) (by kernel_rfl) ?_
                  refine GmT.p' 32 58 (undef) (by kernel_rfl) (by kernel_rfl) ?_
                  refine GmT.p' 33 59 (undef) (by kernel_rfl) (by kernel_rfl) ?_
                  refine GmT.p' 34 60 (undef) (by kernel_rfl) (by kernel_rfl) ?_
                  refine GmT.p' 35 61 (.bool false) (by kernel_rfl) (by kernel_rfl) ?_
                  refine GmT.p' 36 62 (.bool false) (by kernel_rfl) (by kernel_rfl) ?_
                  refine GmT.p' 37 63 (undef) (by kernel_rfl) (by kernel_rfl) ?_
                  refine GmT.p' 38 64 (undef) (by kernel_rfl) (by kernel_rfl) ?_
                  refine GmT.p' 39 65 (undef) (by kernel_rfl) (by kernel_rfl) ?_
                  refine GmT.p' 40 66 (.bool false) (by kernel_rfl) (by kernel_rfl) ?_
                  refine GmT.p' 41 67 (.bool false) (by kernel_rfl) (by kernel_rfl) ?_
                  refine GmT.p' 42 68 (undef) (by kernel_rfl) (by kernel_rfl) ?_
                  refine GmT.p' 43 69 (undef) (by kernel_rfl) (by kernel_rfl) ?_
                  refine GmT.p' 44 70 (undef) (by kernel_rfl) (by kernel_rfl) ?_
                  refine GmT.p' 45 71 (undef) (by kernel_rfl) (by kernel_rfl) ?_
                  refine GmT.p' 46 72 (.bool false) (by kernel_rfl) (by kernel_rfl) ?_
                  refine GmT.p' 47 0 (.bool false) (by kernel_rfl) (by kernel_rfl) ?_
                  refine GmT.done (by kernel_rfl) ?_
                  have hI := hI.drop
                  have hI := hI.drop
                  have hI := hI.drop
                  have hI := hI.drop
                  have hI := hI.drop
                  have e := someS h1
                  subst e
                  exact Qn.thenJ fun a ha => ⟨false, rfl, ha.keep [0] (by kernel_rfl), hI⟩
              ·
                rw [lst_set]
                refine (Does.buildSlice (en := (cI .u8)) (d := 48) (n := 3) (T := 37) (ps := [(0, .int .u8 34), (1, .int .u8 97), (2, .int .u8 34)]) ([34, 97, 34] : List Int) (by kernel_rfl) Go.Proofs.Try.underlying37 ty5 (by kernel_rfl) (by kernel_rfl) (by kernel_rfl) (by kernel_rfl) (len_all (fun _ => rfl)) hI ?_)
                intro b44 w hI
                have hC := hI
                have hC := hC.drop
                have hC := hC.drop
                refine ⟨fun _ _ => hC, ?_⟩
                refine GmT.several [21, 23] (by kernel_rfl) rfl ?_
                intro i hi; simp only [List.mem_cons, List.not_mem_nil, or_false] at hi; rcases hi with rfl | rfl
                ·
                  obtain ⟨y46, hc45, h1⟩ := bindS h1
                  try dsimp only at h1
                  rw [lst_set]
                  refine (Does.call (d := some 47) (n := 6) (vs := [.agg (c_ApiEvent (ApiEvent.mk 0 1 (⟨#[97]⟩ : ByteArray) 0 0 (List.replicate 32 (0 : Int)))).toArray]) (by kernel_rfl) en6 (c6 w0 w _ _ hI (hT.mono hle14) (ApiEvent.mk 0 1 (⟨#[97]⟩ : ByteArray) 0 0 (List.replicate 32 (0 : Int))) (by kernel_rfl) _ hc45) ?_)
                  rintro e w ⟨rfl, hI⟩
                  refine ⟨_, rfl, ?_⟩
                  have hC := hI
                  have hC := hC.drop
                  have hC := hC.drop
                  refine ⟨fun _ _ => hC, ?_⟩
                  refine GmT.o (i := 23) (by kernel_rfl) (Does.b2sOwn (d := 49) (src := 37) (dst := 9) (xs := ([34, 97, 34] : List Int)) (by kernel_rfl) Go.Proofs.Try.underlying37 Go.Proofs.Try.underlying5 Go.Proofs.Try.underlying9 hI ?_)
                  have hC := hI
                  have hC := hC.drop
                  have hC := hC.drop
                  refine ⟨fun _ _ => hC, ?_⟩
                  obtain ⟨hg47, h1⟩ := guardS h1
                  have hC := hI
                  have hC := hC.drop
                  have hC := hC.drop
                  refine GmT.r (i := 24) 2 (by kernel_rfl) (by kernel_rfl) (Yl.cat (d := 50) (T := 9) (x := (⟨#[99, 114, 101, 97, 116, 101, 32, 49, 32]⟩ : ByteArray)) (y := strOfNums ([34, 97, 34] : List Int)) (by kernel_rfl) hg47) hC ?_
                  refine GmT.p' 25 51 (.bool (seq y46 ((⟨#[99, 114, 101, 97, 116, 101, 32, 49, 32]⟩ : ByteArray) ++ (strOfNums ([34, 97, 34] : List Int))))) (by kernel_rfl) (by kernel_rfl) ?_
                  refine GmT.p' 26 52 (.bool (seq y46 ((⟨#[99, 114, 101, 97, 116, 101, 32, 49, 32]⟩ : ByteArray) ++ (strOfNums ([34, 97, 34] : List Int))))) (by kernel_rfl) (by kernel_rfl) ?_
                  refine GmT.p' 27 53 (.bool (seq y46 ((⟨#[99, 114, 101, 97, 116, 101, 32, 49, 32]⟩ : ByteArray) ++ (strOfNums ([34, 97, 34] : List Int))))) (by kernel_rfl) (by kernel_rfl) ?_
                  by_cases hb48 : (seq y46 ((⟨#[99, 114, 101, 97, 116, 101, 32, 49, 32]⟩ : ByteArray) ++ (strOfNums ([34, 97, 34] : List Int)))) = true
                  · rw [if_pos hb48] at h1
                    refine GmT.keep [1, 7, 53] (S' := [(1, .pointer (some ⟨b1, 0, none⟩)), (7, .slice A18 y17.length cp19), (53, .bool true)]) (by (try simp only [hb48]); kernel_rfl) ?_
                    have hC := hI
                    have hC := hC.drop
                    have hC := hC.drop
                    refine GmT.r (i := 28) 2 (by kernel_rfl) (by kernel_rfl) (Yl.load (d := 54) (T := 26) (v := .agg (c_ApiEvent (ApiEvent.mk 0 1 (⟨#[97]⟩ : ByteArray) 0 0 (List.replicate 32 (0 : Int)))).toArray) (by kernel_rfl) (ldBN ty26 (l := c_ApiEvent (ApiEvent.mk 0 1 (⟨#[97]⟩ : ByteArray) 0 0 (List.replicate 32 (0 : Int)))) (o := 0) (cs := c_ApiEvent (ApiEvent.mk 0 1 (⟨#[97]⟩ : ByteArray) 0 0 (List.replicate 32 (0 : Int)))) (pick3 _ _ _ _) (len_ApiEvent _ (by kernel_rfl)) (whole _ _ (len_ApiEvent _ (by kernel_rfl))))) hC ?_
                    obtain ⟨y50, hc49, h1⟩ := bindS h1
                    try dsimp only at h1
                    refine GmT.o (i := 29) (by kernel_rfl) (Does.call (d := some 55) (n := 9) (vs := [.agg (c_ApiEvent (ApiEvent.mk 0 1 (⟨#[97]⟩ : ByteArray) 0 0 (List.replicate 32 (0 : Int)))).toArray]) (by kernel_rfl) en9 (c9 w0 w _ _ hI (hT.mono hle14) (ApiEvent.mk 0 1 (⟨#[97]⟩ : ByteArray) 0 0 (List.replicate 32 (0 : Int))) (by kernel_rfl) _ hc49) ?_)
                    rintro e w ⟨rfl, hI⟩
                    refine ⟨_, rfl, ?_⟩
                    have hC := hI
                    have hC := hC.drop
                    have hC := hC.drop
                    refine ⟨fun _ _ => hC, ?_⟩
                    refine GmT.p' 30 56 (.bool y50) (by kernel_rfl) (by kernel_rfl) ?_
                    refine GmT.p' 31 57 (.bool y50) (by kernel_rfl) (by kernel_rfl) ?_
                    by_cases hb51 : y50 = true
                    · rw [if_pos hb51] at h1
                      refine GmT.keep [7, 57] (S' := [(7, .slice A18 y17.length cp19), (57, .bool true)]) (by (try simp only [hb51]); kernel_rfl) ?_
                      refine GmT.p' 32 58 (.agg (c_ApiEvent (ApiEvent.mk 0 0 (⟨#[]⟩ : ByteArray) 0 0 (List.replicate 32 (0 : Int)))).toArray) (by kernel_rfl) (by kernel_rfl) ?_
                      obtain ⟨y53, hc52, h1⟩ := bindS h1
                      try dsimp only at h1
                      refine GmT.o (i := 33) (by kernel_rfl) (Does.call (d := some 59) (n := 9) (vs := [.agg (c_ApiEvent (ApiEvent.mk 0 0 (⟨#[]⟩ : ByteArray) 0 0 (List.replicate 32 (0 : Int)))).toArray]) (by kernel_rfl) en9 (c9 w0 w _ _ hI (hT.mono hle14) (ApiEvent.mk 0 0 (⟨#[]⟩ : ByteArray) 0 0 (List.replicate 32 (0 : Int))) (by kernel_rfl) _ hc52) ?_)
                      rintro e w ⟨rfl, hI⟩
                      refine ⟨_, rfl, ?_⟩
                      have hC := hI
                      have hC := hC.drop
                      have hC := hC.drop
                      refine ⟨fun _ _ => hC, ?_⟩
                      refine GmT.p' 34 60 (.bool (!y53)) (by kernel_rfl) (by kernel_rfl) ?_
                      refine GmT.p' 35 61 (.bool (!y53)) (by kernel_rfl) (by kernel_rfl) ?_
                      refine GmT.p' 36 62 (.bool (!y53)) (by kernel_rfl) (by kernel_rfl) ?_
                      by_cases hb54 : (!y53) = true
                      · rw [if_pos hb54] at h1
                        refine GmT.keep [7, 62] (S' := [(7, .slice A18 y17.length cp19), (62, .bool true)]) (by (try simp only [hb54]); kernel_rfl) ?_
                        refine GmT.p' 37 63 (.slice A18 y17.length cp19) (by kernel_rfl) (by kernel_rfl) ?_
                        refine GmT.p' 38 64 (.int .i64 (y17.length : Int)) (by kernel_rfl) (by kernel_rfl) ?_
                        refine GmT.p' 39 65 (.bool ((y17.length : Int) == 3)) (by kernel_rfl) (by kernel_rfl) ?_
                        refine GmT.p' 40 66 (.bool ((y17.length : Int) == 3)) (by kernel_rfl) (by kernel_rfl) ?_
                        refine GmT.p' 41 67 (.bool ((y17.length : Int) == 3)) (by kernel_rfl) (by kernel_rfl) ?_
                        by_cases hb55 : ((y17.length : Int) == 3) = true
                        · rw [if_pos hb55] at h1
                          refine GmT.keep [7, 67] (S' := [(7, .slice A18 y17.length cp19), (67, .bool true)]) (by (try simp only [hb55]); kernel_rfl) ?_
                          refine GmT.p' 42 68 (.slice A18 y17.length cp19) (by kernel_rfl) (by kernel_rfl) ?_
                          obtain ⟨hg56, h1⟩ := guardS h1
                          obtain ⟨g57, hA58, hr59, hl60⟩ := ownS_get (hI.mono (pick3 _ _ _ _)) hg56.1 hg56.2
                          have hC := hI
                          have hC := hC.drop
                          have hC := hC.drop
                          refine GmT.r (i := 43) 2 (by kernel_rfl) (by kernel_rfl) (Yl.indexSlice (d := 69) (T := 34) (cc := cp19) (k := .i64) (j := 2) (g := g57) (o := 0) (by kernel_rfl) Go.Proofs.Try.underlying34 ty3 hA58 hg56.1 hg56.2) hC ?_
                          have hC := hI
                          have hC := hC.drop
                          have hC := hC.drop
                          refine GmT.r (i := 44) 2 (by kernel_rfl) (by kernel_rfl) (Yl.load (d := 70) (T := 3) (v := .int .i64 (gt y17 2)) (by kernel_rfl) (ldR ty3 (v := .int .i64 (gt y17 2)) 0 (fun w hC => hr59 w0 w _ hC) (by kernel_rfl))) hC ?_
                          refine GmT.p' 45 71 (.bool ((gt y17 2) == 1)) (by kernel_rfl) (by kernel_rfl) ?_
                          refine GmT.p' 46 72 (.bool ((gt y17 2) == 1)) (by kernel_rfl) (by kernel_rfl) ?_
                          refine GmT.p' 47 0 (.bool ((gt y17 2) == 1)) (by kernel_rfl) (by kernel_rfl) ?_
                          refine GmT.done (by kernel_rfl) ?_
                          have hI := hI.drop
                          have hI := hI.drop
                          have hI := hI.drop
                          have hI := hI.drop
                          have hI := hI.drop
                          have e := someS h1
                          subst e
                          exact Qn.thenJ fun a ha => ⟨(gt y17 2) == 1, rfl, ha.keep [0] (by kernel_rfl), hI⟩
                        · rw [if_neg hb55] at h1
                          have hb55 : ((y17.length : Int) == 3) = false := by simpa using hb55
                          refine GmT.keep [7, 67] (S' := [(7, .slice A18 y17.length cp19), (67, .bool false)]) (by (try simp only [hb55]); kernel_rfl) ?_
                          refine GmT.p' 42 68 (undef) (by kernel_rfl) (by kernel_rfl) ?_
                          refine GmT.p' 43 69 (undef) (by kernel_rfl) (by kernel_rfl) ?_
                          refine GmT.p' 44 70 (undef) (by kernel_rfl) (by kernel_rfl) ?_
                          refine GmT.p' 45 71 (undef) (by kernel_rfl) (by kernel_rfl) ?_
                          refine GmT.p' 46 72 (.bool false) (by kernel_rfl) (by kernel_rfl) ?_
                          refine GmT.p' 47 0 (.bool false) (by kernel_rfl) (by kernel_rfl) ?_
                          refine GmT.done (by kernel_rfl) ?_
                          have hI := hI.drop
                          have hI := hI.drop
                          have hI := hI.drop
                          have hI := hI.drop
                          have hI := hI.drop
                          have e := someS h1
                          subst e
                          exact Qn.thenJ fun a ha => ⟨false, rfl, ha.keep [0] (by kernel_rfl), hI⟩
                      · rw [if_neg hb54] at h1
                        have hb54 : (!y53) = false := by simpa using hb54
                        refine GmT.keep [7, 62] (S' := [(7, .slice A18 y17.length cp19), (62, .bool false)]) (by (try simp only [hb54]); kernel_rfl) ?_
                        refine GmT.p' 37 63 (undef) (by kernel_rfl) (by kernel_rfl) ?_
                        refine GmT.p' 38 64 (undef) (by kernel_rfl) (by kernel_rfl) ?_
                        refine GmT.p' 39 65 (undef) (by kernel_rfl) (by kernel_rfl) ?_
                        refine GmT.p' 40 66 (.bool false) (by kernel_rfl) (by kernel_rfl) ?_
                        refine GmT.p' 41 67 (.bool false) (by kernel_rfl) (by kernel_rfl) ?_
                        refine GmT.p' 42 68 (undef) (by kernel_rfl) (by kernel_rfl) ?_
                        refine GmT.p' 43 69 (undef) (by kernel_rfl) (by kernel_rfl) ?_
                        refine GmT.p' 44 70 (undef) (by kernel_rfl) (by kernel_rfl) ?_
                        refine GmT.p' 45 71 (undef) (by kernel_rfl) (by kernel_rfl) ?_
                        refine GmT.p' 46 72 (.bool false) (by kernel_rfl) (by kernel_rfl) ?_
                        refine GmT.p' 47 0 (.bool false) (by kernel_rfl) (by kernel_rfl) ?_
                        refine GmT.done (by kernel_rfl) ?_
                        have hI := hI.drop
                        have hI := hI.drop
                        have hI := hI.drop
                        have hI := hI.drop
                        have hI := hI.drop
                        have e := someS h1
                        subst e
                        exact Qn.thenJ fun a ha => ⟨false, rfl, ha.keep [0] (by kernel_rfl), hI⟩
                    · rw [if_neg hb51] at h1
                      have hb51 : y50 = false := by simpa using hb51
                      refine GmT.keep [7, 57] (S' := [(7, .slice A18 y17.length cp19), (57, .bool false)]) (by (try simp only [hb51]); kernel_rfl) ?_
                      refine GmT.p' 32 58 (undef) (by kernel_rfl) (by kernel_rfl) ?_
                      refine GmT.p' 33 59 (undef) (by kernel_rfl) (by kernel_rfl) ?_
                      refine GmT.p' 34 60 (undef) (by kernel_rfl) (by kernel_rfl) ?_
                      refine GmT.p' 35 61 (.bool false) (by kernel_rfl) (by kernel_rfl) ?_
                      refine GmT.p' 36 62 (.bool false) (by kernel_rfl) (by kernel_rfl) ?_
                      refine GmT.p' 37 63 (undef) (by kernel_rfl) (by kernel_rfl) ?_
                      refine GmT.p' 38 64 (undef) (by kernel_rfl) (by kernel_rfl) ?_
                      refine GmT.p' 39 65 (undef) (by kernel_rfl) (by kernel_rfl) ?_
                      refine GmT.p' 40 66 (.bool false) (by kernel_rfl) (by kernel_rfl) ?_
                      refine GmT.p' 41 67 (.bool false) (by kernel_rfl) (by kernel_rfl) ?_
                      refine GmT.p' 42 68 (undef) (by kernel_rfl) (by kernel_rfl) ?_
                      refine GmT.p' 43 69 (undef) (by kernel_rfl) (by kernel_rfl) ?_
                      refine GmT.p' 44 70 (undef) (by kernel_rfl) (by kernel_rfl) ?_
                      refine GmT.p' 45 71 (undef) (by kernel_rfl) (by kernel_rfl) ?_
                      refine GmT.p' 46 72 (.bool false) (by kernel_rfl) (by kernel_rfl) ?_
                      refine GmT.p' 47 0 (.bool false) (by kernel_rfl) (by kernel_rfl) ?_
                      refine GmT.done (by kernel_rfl) ?_
                      have hI := hI.drop
                      have hI := hI.drop
                      have hI := hI.drop
                      have hI := hI.drop
                      have hI := hI.drop
                      have e := someS h1
                      subst e
                      exact Qn.thenJ fun a ha => ⟨false, rfl, ha.keep [0] (by kernel_rfl), hI⟩
                  · rw [if_neg hb48] at h1
                    have hb48 : (seq y46 ((⟨#[99, 114, 101, 97, 116, 101, 32, 49, 32]⟩ : ByteArray) ++ (strOfNums ([34, 97, 34] : List Int)))) = false := by simpa using hb48
                    refine GmT.keep [1, 7, 53] (S' := [(1, .pointer (some ⟨b1, 0, none⟩)), (7, .slice A18 y17.length cp19), (53, .bool false)]) (by (try simp only [hb48]); kernel_rfl) ?_
                    refine GmT.p' 28 54 (undef) (by kernel_rfl) (by kernel_rfl) ?_
                    refine GmT.p' 29 55 (undef) (by kernel_rfl) (by kernel_rfl) ?_
                    refine GmT.p' 30 56 (.bool false) (by kernel_rfl) (by kernel_rfl) ?_
                    refine GmT.p' 31 57 (.bool false) (by kernel_rfl) (by kernel_rfl) ?_
                    refine GmT.p' 32 58 (undef) (by kernel_rfl) (by kernel_rfl) ?_
                    refine GmT.p' 33 59 (undef) (by kernel_rfl) (by kernel_rfl) ?_
                    refine GmT.p' 34 60 (undef) (by kernel_rfl) (by kernel_rfl) ?_
                    refine GmT.p' 35 61 (.bool false) (by kernel_rfl) (by kernel_rfl) ?_
                    refine GmT.p' 36 62 (.bool false) (by kernel_rfl) (by kernel_rfl) ?_
                    refine GmT.p' 37 63 (undef) (by kernel_rfl) (by kernel_rfl) ?_
                    refine GmT.p' 38 64 (undef) (by kernel_rfl) (by kernel_rfl) ?_
                    refine GmT.p' 39 65 (undef) (by kernel_rfl) (by kernel_rfl) ?_
                    refine GmT.p' 40 66 (.bool false) (by kernel_rfl) (by kernel_rfl) ?_
                    refine GmT.p' 41 67 (.bool false) (by kernel_rfl) (by kernel_rfl) ?_
                    refine GmT.p' 42 68 (undef) (by kernel_rfl) (by kernel_rfl) ?_
                    refine GmT.p' 43 69 (undef) (by kernel_rfl) (by kernel_rfl) ?_
                    refine GmT.p' 44 70 (undef) (by kernel_rfl) (by kernel_rfl) ?_
                    refine GmT.p' 45 71 (undef) (by kernel_rfl) (by kernel_rfl) ?_
                    refine GmT.p' 46 72 (.bool false) (by kernel_rfl) (by kernel_rfl) ?_
                    refine GmT.p' 47 0 (.bool false) (by kernel_rfl) (by kernel_rfl) ?_
                    refine GmT.done (by kernel_rfl) ?_
                    have hI := hI.drop
                    have hI := hI.drop
                    have hI := hI.drop
                    have hI := hI.drop
                    have hI := hI.drop
                    have e := someS h1
                    subst e
                    exact Qn.thenJ fun a ha => ⟨false, rfl, ha.keep [0] (by kernel_rfl), hI⟩
                ·
                  rw [lst_set]
                  refine (Does.b2sOwn (d := 49) (src := 37) (dst := 9) (xs := ([34, 97, 34] : List Int)) (by kernel_rfl) Go.Proofs.Try.underlying37 Go.Proofs.Try.underlying5 Go.Proofs.Try.underlying9 hI ?_)
                  have hC := hI
                  have hC := hC.drop
                  have hC := hC.drop
                  refine ⟨fun _ _ => hC, ?_⟩
                  obtain ⟨y63, hc62, h1⟩ := bindS h1
                  try dsimp only at h1
                  obtain ⟨hg61, h1⟩ := guardS h1
                  have hC := hI
                  have hC := hC.drop
                  have hC := hC.drop
                  refine GmT.r (i := 24) 2 (by kernel_rfl) (by kernel_rfl) (Yl.cat (d := 50) (T := 9) (x := (⟨#[99, 114, 101, 97, 116, 101, 32, 49, 32]⟩ : ByteArray)) (y := strOfNums ([34, 97, 34] : List Int)) (by kernel_rfl) hg61) hC ?_
                  refine GmT.o (i := 21) (by kernel_rfl) (Does.call (d := some 47) (n := 6) (vs := [.agg (c_ApiEvent (ApiEvent.mk 0 1 (⟨#[97]⟩ : ByteArray) 0 0 (List.replicate 32 (0 : Int)))).toArray]) (by kernel_rfl) en6 (c6 w0 w _ _ hI (hT.mono hle14) (ApiEvent.mk 0 1 (⟨#[97]⟩ : ByteArray) 0 0 (List.replicate 32 (0 : Int))) (by kernel_rfl) _ hc62) ?_)
                  rintro e w ⟨rfl, hI⟩
                  refine ⟨_, rfl, ?_⟩
                  have hC := hI
                  have hC := hC.drop
                  have hC := hC.drop
                  refine ⟨fun _ _ => hC, ?_⟩
                  refine GmT.p' 25 51 (.bool (seq y63 ((⟨#[99, 114, 101, 97, 116, 101, 32, 49, 32]⟩ : ByteArray) ++ (strOfNums ([34, 97, 34] : List Int))))) (by kernel_rfl) (by kernel_rfl) ?_
                  refine GmT.p' 26 52 (.bool (seq y63 ((⟨#[99, 114, 101, 97, 116, 101, 32, 49, 32]⟩ : ByteArray) ++ (strOfNums ([34, 97, 34] : List Int))))) (by kernel_rfl) (by kernel_rfl) ?_
                  refine GmT.p' 27 53 (.bool (seq y63 ((⟨#[99, 114, 101, 97, 116, 101, 32, 49, 32]⟩ : ByteArray) ++ (strOfNums ([34, 97, 34] : List Int))))) (by kernel_rfl) (by kernel_rfl) ?_
                  by_cases hb64 : (seq y63 ((⟨#[99, 114, 101, 97, 116, 101, 32, 49, 32]⟩ : ByteArray) ++ (strOfNums ([34, 97, 34] : List Int)))) = true
                  · rw [if_pos hb64] at h1
                    refine GmT.keep [1, 7, 53] (S' := [(1, .pointer (some ⟨b1, 0, none⟩)), (7, .slice A18 y17.length cp19), (53, .bool true)]) (by (try simp only [hb64]); kernel_rfl) ?_
                    have hC := hI
                    have hC := hC.drop
                    have hC := hC.drop
                    refine GmT.r (i := 28) 2 (by kernel_rfl) (by kernel_rfl) (Yl.load (d := 54) (T := 26) (v := .agg (c_ApiEvent (ApiEvent.mk 0 1 (⟨#[97]⟩ : ByteArray) 0 0 (List.replicate 32 (0 : Int)))).toArray) (by kernel_rfl) (ldBN ty26 (l := c_ApiEvent (ApiEvent.mk 0 1 (⟨#[97]⟩ : ByteArray) 0 0 (List.replicate 32 (0 : Int)))) (o := 0) (cs := c_ApiEvent (ApiEvent.mk 0 1 (⟨#[97]⟩ : ByteArray) 0 0 (List.replicate 32 (0 : Int)))) (pick3 _ _ _ _) (len_ApiEvent _ (by kernel_rfl)) (whole _ _ (len_ApiEvent _ (by kernel_rfl))))) hC ?_
                    obtain ⟨y66, hc65, h1⟩ := bindS h1
                    try dsimp only at h1
                    refine GmT.o (i := 29) (by kernel_rfl) (Does.call (d := some 55) (n := 9) (vs := [.agg (c_ApiEvent (ApiEvent.mk 0 1 (⟨#[97]⟩ : ByteArray) 0 0 (List.replicate 32 (0 : Int)))).toArray]) (by kernel_rfl) en9 (c9 w0 w _ _ hI (hT.mono hle14) (ApiEvent.mk 0 1 (⟨#[97]⟩ : ByteArray) 0 0 (List.replicate 32 (0 : Int))) (by kernel_rfl) _ hc65) ?_)
                    rintro e w ⟨rfl, hI⟩
                    refine ⟨_, rfl, ?_⟩
                    have hC := hI
                    have hC := hC.drop
                    have hC := hC.drop
                    refine ⟨fun _ _ => hC, ?_⟩
                    refine GmT.p' 30 56 (.bool y66) (by kernel_rfl) (by kernel_rfl) ?_
                    refine GmT.p' 31 57 (.bool y66) (by kernel_rfl) (by kernel_rfl) ?_
                    by_cases hb67 : y66 = true
                    · rw [if_pos hb67] at h1
                      refine GmT.keep [7, 57] (S' := [(7, .slice A18 y17.length cp19), (57, .bool true)]) (by (try simp only [hb67]); kernel_rfl) ?_
                      refine GmT.p' 32 58 (.agg (c_ApiEvent (ApiEvent.mk 0 0 (⟨#[]⟩ : ByteArray) 0 0 (List.replicate 32 (0 : Int)))).toArray) (by kernel_rfl) (by kernel_rfl) ?_
                      obtain ⟨y69, hc68, h1⟩ := bindS h1
                      try dsimp only at h1
                      refine GmT.o (i := 33) (by kernel_rfl) (Does.call (d := some 59) (n := 9) (vs := [.agg (c_ApiEvent (ApiEvent.mk 0 0 (⟨#[]⟩ : ByteArray) 0 0 (List.replicate 32 (0 : Int)))).toArray]) (by kernel_rfl) en9 (c9 w0 w _ _ hI (hT.mono hle14) (ApiEvent.mk 0 0 (⟨#[]⟩ : ByteArray) 0 0 (List.replicate 32 (0 : Int))) (by kernel_rfl) _ hc68) ?_)
                      rintro e w ⟨rfl, hI⟩
                      refine ⟨_, rfl, ?_⟩
                      have hC := hI
                      have hC := hC.drop
                      have hC := hC.drop
                      refine ⟨fun _ _ => hC, ?_⟩
                      refine GmT.p' 34 60 (.bool (!y69)) (by kernel_rfl) (by kernel_rfl) ?_
                      refine GmT.p' 35 61 (.bool (!y69)) (by kernel_rfl) (by kernel_rfl) ?_
                      refine GmT.p' 36 62 (.bool (!y69)) (by kernel_rfl) (by kernel_rfl) ?_
                      by_cases hb70 : (!y69) = true
                      · rw [if_pos hb70] at h1
                        refine GmT.keep [7, 62] (S' := [(7, .slice A18 y17.length cp19), (62, .bool true)]) (by (try simp only [hb70]); kernel_rfl) ?_
                        refine GmT.p' 37 63 (.slice A18 y17.length cp19) (by kernel_rfl) (by kernel_rfl) ?_
                        refine GmT.p' 38 64 (.int .i64 (y17.length : Int)) (by kernel_rfl) (by kernel_rfl) ?_
                        refine GmT.p' 39 65 (.bool ((y17.length : Int) == 3)) (by kernel_rfl) (by kernel_rfl) ?_
                        refine GmT.p' 40 66 (.bool ((y17.length : Int) == 3)) (by kernel_rfl) (by kernel_rfl) ?_
                        refine GmT.p' 41 67 (.bool ((y17.length : Int) == 3)) (by kernel_rfl) (by kernel_rfl) ?_
                        by_cases hb71 : ((y17.length : Int) == 3) = true
                        · rw [if_pos hb71] at h1
                          refine GmT.keep [7, 67] (S' := [(7, .slice A18 y17.length cp19), (67, .bool true)]) (by (try simp only [hb71]); kernel_rfl) ?_
                          refine GmT.p' 42 68 (.slice A18 y17.length cp19) (by kernel_rfl) (by kernel_rfl) ?_
                          obtain ⟨hg72, h1⟩ := guardS h1
                          obtain ⟨g73, hA74, hr75, hl76⟩ := ownS_get (hI.mono (pick3 _ _ _ _)) hg72.1 hg72.2
                          have hC := hI
                          have hC := hC.drop
                          have hC := hC.drop
                          refine GmT.r (i := 43) 2 (by kernel_rfl) (by kernel_rfl) (Yl.indexSlice (d := 69) (T := 34) (cc := cp19) (k := .i64) (j := 2) (g := g73) (o := 0) (by kernel_rfl) Go.Proofs.Try.underlying34 ty3 hA74 hg72.1 hg72.2) hC ?_
                          have hC := hI
                          have hC := hC.drop
                          have hC := hC.drop
                          refine GmT.r (i := 44) 2 (by kernel_rfl) (by kernel_rfl) (Yl.load (d := 70) (T := 3) (v := .int .i64 (gt y17 2)) (by kernel_rfl) (ldR ty3 (v := .int .i64 (gt y17 2)) 0 (fun w hC => hr75 w0 w _ hC) (by kernel_rfl))) hC ?_
                          refine GmT.p' 45 71 (.bool ((gt y17 2) == 1)) (by kernel_rfl) (by kernel_rfl) ?_
                          refine GmT.p' 46 72 (.bool ((gt y17 2) == 1)) (by kernel_rfl) (by kernel_rfl) ?_
                          refine GmT.p' 47 0 (.bool ((gt y17 2) == 1)) (by kernel_rfl) (by kernel_rfl) ?_
                          refine GmT.done (by kernel_rfl) ?_
                          have hI := hI.drop
                          have hI := hI.drop
                          have hI := hI.drop
                          have hI := hI.drop
                          have hI := hI.drop
                          have e := someS h1
                          subst e
                          exact Qn.thenJ fun a ha => ⟨(gt y17 2) == 1, rfl, ha.keep [0] (by kernel_rfl), hI⟩
                        · rw [if_neg hb71] at h1
                          have hb71 : ((y17.length : Int) == 3) = false := by simpa using hb71
                          refine GmT.keep [7, 67] (S' := [(7, .slice A18 y17.length cp19), (67, .bool false)]) (by (try simp only [hb71]); kernel_rfl) ?_
                          refine GmT.p' 42 68 (undef) (by kernel_rfl) (by kernel_rfl) ?_
                          refine GmT.p' 43 69 (undef) (by kernel_rfl) (by kernel_rfl) ?_
                          refine GmT.p' 44 70 (undef) (by kernel_rfl) (by kernel_rfl) ?_
                          refine GmT.p' 45 71 (undef) (by kernel_rfl) (by kernel_rfl) ?_
                          refine GmT.p' 46 72 (.bool false) (by kernel_rfl) (by kernel_rfl) ?_
                          refine GmT.p' 47 0 (.bool false) (by kernel_rfl) (by kernel_rfl) ?_
                          refine GmT.done (by kernel_rfl) ?_
                          have hI := hI.drop
                          have hI := hI.drop
                          have hI := hI.drop
                          have hI := hI.drop
                          have hI := hI.drop
                          have e := someS h1
                          subst e
                          exact Qn.thenJ fun a ha => ⟨false, rfl, ha.keep [0] (by kernel_rfl), hI⟩
                      · rw [if_neg hb70] at h1
                        have hb70 : (!y69) = false := by simpa using hb70
                        refine GmT.keep [7, 62] (S' := [(7, .slice A18 y17.length cp19), (62, .bool false)]) (by (try simp only [hb70]); kernel_rfl) ?_
                        refine GmT.p' 37 63 (undef) (by kernel_rfl) (by kernel_rfl) ?_
                        refine GmT.p' 38 64 (undef) (by kernel_rfl) (by kernel_rfl) ?_
                        refine GmT.p' 39 65 (undef) (by kernel_rfl) (by kernel_rfl) ?_
                        refine GmT.p' 40 66 (.bool false) (by kernel_rfl) (by kernel_rfl) ?_
                        refine GmT.p' 41 67 (.bool false) (by kernel_rfl) (by kernel_rfl) ?_
                        refine GmT.p' 42 68 (undef) (by kernel_rfl) (by kernel_rfl) ?_
                        refine GmT.p' 43 69 (undef) (by kernel_rfl) (by kernel_rfl) ?_
                        refine GmT.p' 44 70 (undef) (by kernel_rfl) (by kernel_rfl) ?_
                        refine GmT.p' 45 71 (undef) (by kernel_rfl) (by kernel_rfl) ?_
                        refine GmT.p' 46 72 (.bool false) (by kernel_rfl) (by kernel_rfl) ?_
                        refine GmT.p' 47 0 (.bool false) (by kernel_rfl) (by kernel_rfl) ?_
                        refine GmT.done (by kernel_rfl) ?_
                        have hI := hI.drop
                        have hI := hI.drop
                        have hI := hI.drop
                        have hI := hI.drop
                        have hI := hI.drop
                        have e := someS h1
                        subst e
                        exact Qn.thenJ fun a ha => ⟨false, rfl, ha.keep [0] (by kernel_rfl), hI⟩
                    · rw [if_neg hb67] at h1
                      have hb67 : y66 = false := by simpa using hb67
                      refine GmT.keep [7, 57] (S' := [(7, .slice A18 y17.length cp19), (57, .bool false)]) (by (try simp only [hb67]); kernel_rfl) ?_
                      refine GmT.p' 32 58 (undef) (by kernel_rfl) (by kernel_rfl) ?_
                      refine GmT.p' 33 59 (undef) (by kernel_rfl) (by kernel_rfl) ?_
                      refine GmT.p' 34 60 (undef) (by kernel_rfl) (by kernel_rfl) ?_
                      refine GmT.p' 35 61 (.bool false) (by kernel_rfl) (by kernel_rfl) ?_
                      refine GmT.p' 36 62 (.bool false) (by kernel_rfl) (by kernel_rfl) ?_
                      refine GmT.p' 37 63 (undef) (by kernel_rfl) (by kernel_rfl) ?_
                      refine GmT.p' 38 64 (undef) (by kernel_rfl) (by kernel_rfl) ?_
                      refine GmT.p' 39 65 (undef) (by kernel_rfl) (by kernel_rfl) ?_
                      refine GmT.p' 40 66 (.bool false) (by kernel_rfl) (by kernel_rfl) ?_
                      refine GmT.p' 41 67 (.bool false) (by kernel_rfl) (by kernel_rfl) ?_
                      refine GmT.p' 42 68 (undef) (by kernel_rfl) (by kernel_rfl) ?_
                      refine GmT.p' 43 69 (undef) (by kernel_rfl) (by kernel_rfl) ?_
                      refine GmT.p' 44 70 (undef) (by kernel_rfl) (by kernel_rfl) ?_
                      refine GmT.p' 45 71 (undef) (by kernel_rfl) (by kernel_rfl) ?_
                      refine GmT.p' 46 72 (.bool false) (by kernel_rfl) (by kernel_rfl) ?_
                      refine GmT.p' 47 0 (.bool false) (by kernel_rfl) (by kernel_rfl) ?_
                      refine GmT.done (by kernel_rfl) ?_
                      have hI := hI.drop
                      have hI := hI.drop
                      have hI := hI.drop
                      have hI := hI.drop
                      have hI := hI.drop
                      have e := someS h1
                      subst e
                      exact Qn.thenJ fun a ha => ⟨false, rfl, ha.keep [0] (by kernel_rfl), hI⟩
                  · rw [if_neg hb64] at h1
                    have hb64 : (seq y63 ((⟨#[99, 114, 101, 97, 116, 101, 32, 49, 32]⟩ : ByteArray) ++ (strOfNums ([34, 97, 34] : List Int)))) = false := by simpa using hb64
                    refine GmT.keep [1, 7, 53] (S' := [(1, .pointer (some ⟨b1, 0, none⟩)), (7, .slice A18 y17.length cp19), (53, .bool false)]) (by (try simp only [hb64]); kernel_rfl) ?_
                    refine GmT.p' 28 54 (undef) (by kernel_rfl) (by kernel_rfl) ?_
                    refine GmT.p' 29 55 (undef) (by kernel_rfl) (by kernel_rfl) ?_
                    refine GmT.p' 30 56 (.bool false) (by kernel_rfl) (by kernel_rfl) ?_
                    refine GmT.p' 31 57 (.bool false) (by kernel_rfl) (by kernel_rfl) ?_
                    refine GmT.p' 32 58 (undef) (by kernel_rfl) (by kernel_rfl) ?_
                    refine GmT.p' 33 59 (undef) (by kernel_rfl) (by kernel_rfl) ?_
                    refine GmT.p' 34 60 (undef) (by kernel_rfl) (by kernel_rfl) ?_
                    refine GmT.p' 35 61 (.bool false) (by kernel_rfl) (by kernel_rfl) ?_
                    refine GmT.p' 36 62 (.bool false) (by kernel_rfl) (by kernel_rfl) ?_
                    refine GmT.p' 37 63 (undef) (by kernel_rfl) (by kernel_rfl) ?_
                    refine GmT.p' 38 64 (undef) (by kernel_rfl) (by kernel_rfl) ?_
                    refine GmT.p' 39 65 (undef) (by kernel_rfl) (by kernel_rfl) ?_
                    refine GmT.p' 40 66 (.bool false) (by kernel_rfl) (by kernel_rfl) ?_
                    refine GmT.p' 41 67 (.bool false) (by kernel_rfl) (by kernel_rfl) ?_
                    refine GmT.p' 42 68 (undef) (by kernel_rfl) (by kernel_rfl) ?_
                    refine GmT.p' 43 69 (undef) (by kernel_rfl) (by kernel_rfl) ?_
                    refine GmT.p' 44 70 (undef) (by kernel_rfl) (by kernel_rfl) ?_
                    refine GmT.p' 45 71 (undef) (by kernel_rfl) (by kernel_rfl) ?_
                    refine GmT.p' 46 72 (.bool false) (by kernel_rfl) (by kernel_rfl) ?_
                    refine GmT.p' 47 0 (.bool false) (by kernel_rfl) (by kernel_rfl) ?_
                    refine GmT.done (by kernel_rfl) ?_
                    have hI := hI.drop
                    have hI := hI.drop
                    have hI := hI.drop
                    have hI := hI.drop
                    have hI := hI.drop
                    have e := someS h1
                    subst e
                    exact Qn.thenJ fun a ha => ⟨false, rfl, ha.keep [0] (by kernel_rfl), hI⟩
            · rw [if_neg hb26] at h1
              have hb26 : y10 = false := by simpa using hb26
              refine GmT.keep [1, 7, 45] (S' := [(1, .pointer (some ⟨b1, 0, none⟩)), (7, .slice A18 y17.length cp19), (45, .bool false)]) (by (try simp only [hb26]); kernel_rfl) ?_
              refine GmT.p' 20 46 (undef) (by kernel_rfl) (by kernel_rfl) ?_
              refine GmT.p' 21 47 (undef) (by kernel_rfl) (by kernel_rfl) ?_
              refine GmT.p' 22 48 (undef) (by kernel_rfl) (by kernel_rfl) ?_
              refine GmT.p' 23 49 (undef) (by kernel_rfl) (by kernel_rfl) ?_
              refine GmT.p' 24 50 (undef) (by kernel_rfl) (by kernel_rfl) ?_
              refine GmT.p' 25 51 (undef) (by kernel_rfl) (by kernel_rfl) ?_
              refine GmT.p' 26 52 (.bool false) (by kernel_rfl) (by kernel_rfl) ?_
              refine GmT.p' 27 53 (.bool false) (by kernel_rfl) (by kernel_rfl) ?_
              refine GmT.p' 28 54 (undef) (by kernel_rfl) (by kernel_rfl) ?_
              refine GmT.p' 29 55 (undef) (by kernel_rfl) (by kernel_rfl) ?_
              refine GmT.p' 30 56 (.bool false) (by kernel_rfl) (by kernel_rfl) ?_
              refine GmT.p' 31 57 (.bool false) (by kernel_rfl) (by kernel_rfl) ?_
              refine GmT.p' 32 58 (undef) (by kernel_rfl) (by kernel_rfl) ?_
              refine GmT.p' 33 59 (undef) (by kernel_rfl) (by kernel_rfl) ?_
              refine GmT.p' 34 60 (undef) (by kernel_rfl) (by kernel_rfl) ?_
              refine GmT.p' 35 61 (.bool false) (by kernel_rfl) (by kernel_rfl) ?_
              refine GmT.p' 36 62 (.bool false) (by kernel_rfl) (by kernel_rfl) ?_
              refine GmT.p' 37 63 (undef) (by kernel_rfl) (by kernel_rfl) ?_
              refine GmT.p' 38 64 (undef) (by kernel_rfl) (by kernel_rfl) ?_
              refine GmT.p' 39 65 (undef) (by kernel_rfl) (by kernel_rfl) ?_
              refine GmT.p' 40 66 (.bool false) (by kernel_rfl) (by kernel_rfl) ?_
              refine GmT.p' 41 67 (.bool false) (by kernel_rfl) (by kernel_rfl) ?_
              refine GmT.p' 42 68 (undef) (by kernel_rfl) (by kernel_rfl) ?_
              refine GmT.p' 43 69 (undef) (by kernel_rfl) (by kernel_rfl) ?_
              refine GmT.p' 44 70 (undef) (by kernel_rfl) (by kernel_rfl) ?_
              refine GmT.p' 45 71 (undef) (by kernel_rfl) (by kernel_rfl) ?_
              refine GmT.p' 46 72 (.bool false) (by kernel_rfl) (by kernel_rfl) ?_
              refine GmT.p' 47 0 (.bool false) (by kernel_rfl) (by kernel_rfl) ?_
              refine GmT.done (by kernel_rfl) ?_
              have hI := hI.drop
              have hI := hI.drop
              have hI := hI.drop
              have hI := hI.drop
              have e := someS h1
              subst e
              exact Qn.thenJ fun a ha => ⟨false, rfl, ha.keep [0] (by kernel_rfl), hI⟩
          · rw [if_neg hb25] at h1
            have hb25 : (seq y9 (⟨#[122]⟩ : ByteArray)) = false := by simpa using hb25
            refine GmT.keep [1, 6, 7, 42] (S' := [(1, .pointer (some ⟨b1, 0, none⟩)), (6, .bool y10), (7, .slice A18 y17.length cp19), (42, .bool false)]) (by (try simp only [hb25]); kernel_rfl) ?_
            refine GmT.p' 17 43 (undef) (by kernel_rfl) (by kernel_rfl) ?_
            refine GmT.p' 18 44 (.bool false) (by kernel_rfl) (by kernel_rfl) ?_
            refine GmT.p' 19 45 (.bool false) (by kernel_rfl) (by kernel_rfl) ?_
            refine GmT.p' 20 46 (undef) (by kernel_rfl) (by kernel_rfl) ?_
            refine GmT.p' 21 47 (undef) (by kernel_rfl) (by kernel_rfl) ?_
            refine GmT.p' 22 48 (undef) (by kernel_rfl) (by kernel_rfl) ?_
            refine GmT.p' 23 49 (undef) (by kernel_rfl) (by kernel_rfl) ?_
            refine GmT.p' 24 50 (undef) (by kernel_rfl) (by kernel_rfl) ?_
            refine GmT.p' 25 51 (undef) (by kernel_rfl) (by kernel_rfl) ?_
            refine GmT.p' 26 52 (.bool false) (by kernel_rfl) (by kernel_rfl) ?_
            refine GmT.p' 27 53 (.bool false) (by kernel_rfl) (by kernel_rfl) ?_
            refine GmT.p' 28 54 (undef) (by kernel_rfl) (by kernel_rfl) ?_
            refine GmT.p' 29 55 (undef) (by kernel_rfl) (by kernel_rfl) ?_
            refine GmT.p' 30 56 (.bool false) (by kernel_rfl) (by kernel_rfl) ?_
            refine GmT.p' 31 57 (.bool false) (by kernel_rfl) (by kernel_rfl) ?_
            refine GmT.p' 32 58 (undef) (by kernel_rfl) (by kernel_rfl) ?_
            refine GmT.p' 33 59 (undef) (by kernel_rfl) (by kernel_rfl) ?_
            refine GmT.p' 34 60 (undef) (by kernel_rfl) (by kernel_rfl) ?_
            refine GmT.p' 35 61 (.bool false) (by kernel_rfl) (by kernel_rfl) ?_
            refine GmT.p' 36 62 (.bool false) (by kernel_rfl) (by kernel_rfl) ?_
            refine GmT.p' 37 63 (undef) (by kernel_rfl) (by kernel_rfl) ?_
            refine GmT.p' 38 64 (undef) (by kernel_rfl) (by kernel_rfl) ?_
            refine GmT.p' 39 65 (undef) (by kernel_rfl) (by kernel_rfl) ?_
            refine GmT.p' 40 66 (.bool false) (by kernel_rfl) (by kernel_rfl) ?_
            refine GmT.p' 41 67 (.bool false) (by kernel_rfl) (by kernel_rfl) ?_
            refine GmT.p' 42 68 (undef) (by kernel_rfl) (by kernel_rfl) ?_
            refine GmT.p' 43 69 (undef) (by kernel_rfl) (by kernel_rfl) ?_
            refine GmT.p' 44 70 (undef) (by kernel_rfl) (by kernel_rfl) ?_
            refine GmT.p' 45 71 (undef) (by kernel_rfl) (by kernel_rfl) ?_
            refine GmT.p' 46 72 (.bool false) (by kernel_rfl) (by kernel_rfl) ?_
            refine GmT.p' 47 0 (.bool false) (by kernel_rfl) (by kernel_rfl) ?_
            refine GmT.done (by kernel_rfl) ?_
            have hI := hI.drop
            have hI := hI.drop
            have hI := hI.drop
            have hI := hI.drop
            have e := someS h1
            subst e
            exact Qn.thenJ fun a ha => ⟨false, rfl, ha.keep [0] (by kernel_rfl), hI⟩
        · rw [if_neg hb24] at h1
          have hb24 : (eq_ApiEvent y7 (ApiEvent.mk 0 1 (⟨#[97]⟩ : ByteArray) 0 0 (List.replicate 32 (0 : Int)))) = false := by simpa using hb24
          refine GmT.keep [1, 5, 6, 7, 38] (S' := [(1, .pointer (some ⟨b1, 0, none⟩)), (5, .string y9), (6, .bool y10), (7, .slice A18 y17.length cp19), (38, .bool false)]) (by (try simp only [hb24]); kernel_rfl) ?_
          refine GmT.p' 13 39 (undef) (by kernel_rfl) (by kernel_rfl) ?_
          refine GmT.p' 14 40 (undef) (by kernel_rfl) (by kernel_rfl) ?_
          refine GmT.p' 15 41 (.bool false) (by kernel_rfl) (by kernel_rfl) ?_
          refine GmT.p' 16 42 (.bool false) (by kernel_rfl) (by kernel_rfl) ?_
          refine GmT.p' 17 43 (undef) (by kernel_rfl) (by kernel_rfl) ?_
          refine GmT.p' 18 44 (.bool false) (by kernel_rfl) (by kernel_rfl) ?_
          refine GmT.p' 19 45 (.bool false) (by kernel_rfl) (by kernel_rfl) ?_
          refine GmT.p' 20 46 (undef) (by kernel_rfl) (by kernel_rfl) ?_
          refine GmT.p' 21 47 (undef) (by kernel_rfl) (by kernel_rfl) ?_
          refine GmT.p' 22 48 (undef) (by kernel_rfl) (by kernel_rfl) ?_
          refine GmT.p' 23 49 (undef) (by kernel_rfl) (by kernel_rfl) ?_
          refine GmT.p' 24 50 (undef) (by kernel_rfl) (by kernel_rfl) ?_
          refine GmT.p' 25 51 (undef) (by kernel_rfl) (by kernel_rfl) ?_
          refine GmT.p' 26 52 (.bool false) (by kernel_rfl) (by kernel_rfl) ?_
          refine GmT.p' 27 53 (.bool false) (by kernel_rfl) (by kernel_rfl) ?_
          refine GmT.p' 28 54 (undef) (by kernel_rfl) (by kernel_rfl) ?_
          refine GmT.p' 29 55 (undef) (by kernel_rfl) (by kernel_rfl) ?_
          refine GmT.p' 30 56 (.bool false) (by kernel_rfl) (by kernel_rfl) ?_
          refine GmT.p' 31 57 (.bool false) (by kernel_rfl) (by kernel_rfl) ?_
          refine GmT.p' 32 58 (undef) (by kernel_rfl) (by kernel_rfl) ?_
          refine GmT.p' 33 59 (undef) (by kernel_rfl) (by kernel_rfl) ?_
          refine GmT.p' 34 60 (undef) (by kernel_rfl) (by kernel_rfl) ?_
          refine GmT.p' 35 61 (.bool false) (by kernel_rfl) (by kernel_rfl) ?_
          refine GmT.p' 36 62 (.bool false) (by kernel_rfl) (by kernel_rfl) ?_
          refine GmT.p' 37 63 (undef) (by kernel_rfl) (by kernel_rfl) ?_
          refine GmT.p' 38 64 (undef) (by kernel_rfl) (by kernel_rfl) ?_
          refine GmT.p' 39 65 (undef) (by kernel_rfl) (by kernel_rfl) ?_
          refine GmT.p' 40 66 (.bool false) (by kernel_rfl) (by kernel_rfl) ?_
          refine GmT.p' 41 67 (.bool false) (by kernel_rfl) (by kernel_rfl) ?_
          refine GmT.p' 42 68 (undef) (by kernel_rfl) (by kernel_rfl) ?_
          refine GmT.p' 43 69 (undef) (by kernel_rfl) (by kernel_rfl) ?_
          refine GmT.p' 44 70 (undef) (by kernel_rfl) (by kernel_rfl) ?_
          refine GmT.p' 45 71 (undef) (by kernel_rfl) (by kernel_rfl) ?_
          refine GmT.p' 46 72 (.bool false) (by kernel_rfl) (by kernel_rfl) ?_
          refine GmT.p' 47 0 (.bool false) (by kernel_rfl) (by kernel_rfl) ?_
          refine GmT.done (by kernel_rfl) ?_
          have hI := hI.drop
          have hI := hI.drop
          have hI := hI.drop
          have hI := hI.drop
          have e := someS h1
          subst e
          exact Qn.thenJ fun a ha => ⟨false, rfl, ha.keep [0] (by kernel_rfl), hI⟩
      · rw [if_neg hb23] at h1
        have hb23 : y4 = false := by simpa using hb23
        refine GmT.keep [1, 4, 5, 6, 7, 33] (S' := [(1, .pointer (some ⟨b1, 0, none⟩)), (4, .pointer (some ⟨b11, 0, none⟩)), (5, .string y9), (6, .bool y10), (7, .slice A18 y17.length cp19), (33, .bool false)]) (by (try simp only [hb23]); kernel_rfl) ?_
        refine GmT.p' 8 34 (undef) (by kernel_rfl) (by kernel_rfl) ?_
        refine GmT.p' 9 35 (undef) (by kernel_rfl) (by kernel_rfl) ?_
        refine GmT.p' 10 36 (undef) (by kernel_rfl) (by kernel_rfl) ?_
        refine GmT.p' 11 37 (.bool false) (by kernel_rfl) (by kernel_rfl) ?_
        refine GmT.p' 12 38 (.bool false) (by kernel_rfl) (by kernel_rfl) ?_
        refine GmT.p' 13 39 (undef) (by kernel_rfl) (by kernel_rfl) ?_
        refine GmT.p' 14 40 (undef) (by kernel_rfl) (by kernel_rfl) ?_
        refine GmT.p' 15 41 (.bool false) (by kernel_rfl) (by kernel_rfl) ?_
        refine GmT.p' 16 42 (.bool false) (by kernel_rfl) (by kernel_rfl) ?_
        refine GmT.p' 17 43 (undef) (by kernel_rfl) (by kernel_rfl) ?_
        refine GmT.p' 18 44 (.bool false) (by kernel_rfl) (by kernel_rfl) ?_
        refine GmT.p' 19 45 (.bool false) (by kernel_rfl) (by kernel_rfl) ?_
        refine GmT.p' 20 46 (undef) (by kernel_rfl) (by kernel_rfl) ?_
        refine GmT.p' 21 47 (undef) (by kernel_rfl) (by kernel_rfl) ?_
        refine GmT.p' 22 48 (undef) (by kernel_rfl) (by kernel_rfl) ?_
        refine GmT.p' 23 49 (undef) (by kernel_rfl) (by kernel_rfl) ?_
        refine GmT.p' 24 50 (undef) (by kernel_rfl) (by kernel_rfl) ?_
        refine GmT.p' 25 51 (undef) (by kernel_rfl) (by kernel_rfl) ?_
        refine GmT.p' 26 52 (.bool false) (by kernel_rfl) (by kernel_rfl) ?_
        refine GmT.p' 27 53 (.bool false) (by kernel_rfl) (by kernel_rfl) ?_
        refine GmT.p' 28 54 (undef) (by kernel_rfl) (by kernel_rfl) ?_
        refine GmT.p' 29 55 (undef) (by kernel_rfl) (by kernel_rfl) ?_
        refine GmT.p' 30 56 (.bool false) (by kernel_rfl) (by kernel_rfl) ?_
        refine GmT.p' 31 57 (.bool false) (by kernel_rfl) (by kernel_rfl) ?_
        refine GmT.p' 32 58 (undef) (by kernel_rfl) (by kernel_rfl) ?_
        refine GmT.p' 33 59 (undef) (by kernel_rfl) (by kernel_rfl) ?_
        refine GmT.p' 34 60 (undef) (by kernel_rfl) (by kernel_rfl) ?_
        refine GmT.p' 35 61 (.bool false) (by kernel_rfl) (by kernel_rfl) ?_
        refine GmT.p' 36 62 (.bool false) (by kernel_rfl) (by kernel_rfl) ?_
        refine GmT.p' 37 63 (undef) (by kernel_rfl) (by kernel_rfl) ?_
        refine GmT.p' 38 64 (undef) (by kernel_rfl) (by kernel_rfl) ?_
        refine GmT.p' 39 65 (undef) (by kernel_rfl) (by kernel_rfl) ?_
        refine GmT.p' 40 66 (.bool false) (by kernel_rfl) (by kernel_rfl) ?_
        refine GmT.p' 41 67 (.bool false) (by kernel_rfl) (by kernel_rfl) ?_
        refine GmT.p' 42 68 (undef) (by kernel_rfl) (by kernel_rfl) ?_
        refine GmT.p' 43 69 (undef) (by kernel_rfl) (by kernel_rfl) ?_
        refine GmT.p' 44 70 (undef) (by kernel_rfl) (by kernel_rfl) ?_
        refine GmT.p' 45 71 (undef) (by kernel_rfl) (by kernel_rfl) ?_
        refine GmT.p' 46 72 (.bool false) (by kernel_rfl) (by kernel_rfl) ?_
        refine GmT.p' 47 0 (.bool false) (by kernel_rfl) (by kernel_rfl) ?_
        refine GmT.done (by kernel_rfl) ?_
        have hI := hI.drop
        have hI := hI.drop
        have hI := hI.drop
        have hI := hI.drop
        have e := someS h1
        subst e
        exact Qn.thenJ fun a ha => ⟨false, rfl, ha.keep [0] (by kernel_rfl), hI⟩
    · rw [if_neg hb22] at h1
      have hb22 : (seq y3 (strOfNums ([0, 1, 1, 97] : List Int))) = false := by simpa using hb22
      refine GmT.keep [1, 3, 4, 5, 6, 7, 30] (S' := [(1, .pointer (some ⟨b1, 0, none⟩)), (3, .bool y4), (4, .pointer (some ⟨b11, 0, none⟩)), (5, .string y9), (6, .bool y10), (7, .slice A18 y17.length cp19), (30, .bool false)]) (by (try simp only [hb22]); kernel_rfl) ?_
      refine GmT.p' 5 31 (undef) (by kernel_rfl) (by kernel_rfl) ?_
      refine GmT.p' 6 32 (.bool false) (by kernel_rfl) (by kernel_rfl) ?_
      refine GmT.p' 7 33 (.bool false) (by kernel_rfl) (by kernel_rfl) ?_
      refine GmT.p' 8 34 (undef) (by kernel_rfl) (by kernel_rfl) ?_
      refine GmT.p' 9 35 (undef) (by kernel_rfl) (by kernel_rfl) ?_
      refine GmT.p' 10 36 (undef) (by kernel_rfl) (by kernel_rfl) ?_
      refine GmT.p' 11 37 (.bool false) (by kernel_rfl) (by kernel_rfl) ?_
      refine GmT.p' 12 38 (.bool false) (by kernel_rfl) (by kernel_rfl) ?_
      refine GmT.p' 13 39 (undef) (by kernel_rfl) (by kernel_rfl) ?_
      refine GmT.p' 14 40 (undef) (by kernel_rfl) (by kernel_rfl) ?_
      refine GmT.p' 15 41 (.bool false) (by kernel_rfl) (by kernel_rfl) ?_
      refine GmT.p' 16 42 (.bool false) (by kernel_rfl) (by kernel_rfl) ?_
      refine GmT.p' 17 43 (undef) (by kernel_rfl) (by kernel_rfl) ?_
      refine GmT.p' 18 44 (.bool false) (by kernel_rfl) (by kernel_rfl) ?_
      refine GmT.p' 19 45 (.bool false) (by kernel_rfl) (by kernel_rfl) ?_
      refine GmT.p' 20 46 (undef) (by kernel_rfl) (by kernel_rfl) ?_
      refine GmT.p' 21 47 (undef) (by kernel_rfl) (by kernel_rfl) ?_
      refine GmT.p' 22 48 (undef) (by kernel_rfl) (by kernel_rfl) ?_
      refine GmT.p' 23 49 (undef) (by kernel_rfl) (by kernel_rfl) ?_
      refine GmT.p' 24 50 (undef) (by kernel_rfl) (by kernel_rfl) ?_
      refine GmT.p' 25 51 (undef) (by kernel_rfl) (by kernel_rfl) ?_
      refine GmT.p' 26 52 (.bool false) (by kernel_rfl) (by kernel_rfl) ?_
      refine GmT.p' 27 53 (.bool false) (by kernel_rfl) (by kernel_rfl) ?_
      refine GmT.p' 28 54 (undef) (by kernel_rfl) (by kernel_rfl) ?_
      refine GmT.p' 29 55 (undef) (by kernel_rfl) (by kernel_rfl) ?_
      refine GmT.p' 30 56 (.bool false) (by kernel_rfl) (by kernel_rfl) ?_
      refine GmT.p' 31 57 (.bool false) (by kernel_rfl) (by kernel_rfl) ?_
      refine GmT.p' 32 58 (undef) (by kernel_rfl) (by kernel_rfl) ?_
      refine GmT.p' 33 59 (undef) (by kernel_rfl) (by kernel_rfl) ?_
      refine GmT.p' 34 60 (undef) (by kernel_rfl) (by kernel_rfl) ?_
      refine GmT.p' 35 61 (.bool false) (by kernel_rfl) (by kernel_rfl) ?_
      refine GmT.p' 36 62 (.bool false) (by kernel_rfl) (by kernel_rfl) ?_
      refine GmT.p' 37 63 (undef) (by kernel_rfl) (by kernel_rfl) ?_
      refine GmT.p' 38 64 (undef) (by kernel_rfl) (by kernel_rfl) ?_
      refine GmT.p' 39 65 (undef) (by kernel_rfl) (by kernel_rfl) ?_
      refine GmT.p' 40 66 (.bool false) (by kernel_rfl) (by kernel_rfl) ?_
      refine GmT.p' 41 67 (.bool false) (by kernel_rfl) (by kernel_rfl) ?_
      refine GmT.p' 42 68 (undef) (by kernel_rfl) (by kernel_rfl) ?_
      refine GmT.p' 43 69 (undef) (by kernel_rfl) (by kernel_rfl) ?_
      refine GmT.p' 44 70 (undef) (by kernel_rfl) (by kernel_rfl) ?_
      refine GmT.p' 45 71 (undef) (by kernel_rfl) (by kernel_rfl) ?_
      refine GmT.p' 46 72 (.bool false) (by kernel_rfl) (by kernel_rfl) ?_
      refine GmT.p' 47 0 (.bool false) (by kernel_rfl) (by kernel_rfl) ?_
      refine GmT.done (by kernel_rfl) ?_
      have hI := hI.drop
      have hI := hI.drop
      have hI := hI.drop
      have hI := hI.drop
      have e := someS h1
      subst e
      exact Qn.thenJ fun a ha => ⟨false, rfl, ha.keep [0] (by kernel_rfl), hI⟩
  ·
    rintro a w ⟨x20, rfl, ha, hI⟩
    try dsimp only at h0
    refine CodT.of ?_ ha
    refine CodT.ret ?_
    have e := someS h0
    subst e
    refine Qn.keep [0] (S' := [(0, .bool x20)]) (by kernel_rfl) ?_
    exact post_ret (v := .bool x20) (fun a ha => RunRes.run (vs := [.bool x20]) (.tmp (t := 0) (by kernel_rfl) .nil) ha (by kernel_rfl)) ⟨rfl, hI.weaken hle14⟩
end Go.Cen
