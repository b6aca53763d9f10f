/- The walk of the law FileSums, printed by a program of ours. -/
import Derived.Test.YthdoklobbcedcadDoorWx4
set_option linter.unusedVariables false
set_option linter.unusedSimpArgs false
namespace Go.Cen
set_option maxRecDepth 100000 in
set_option maxHeartbeats 4000000 in
/-- cenotaph/cenotaphlaw08.FileSums -/
theorem c4 (w0 w : World) (Z : Hp) (A : HP) (hI : Inv w0 Z w A) (hT : Tabs Z) (A_a0 : Option Addr) (c_a0 : Nat) (a0 : (List ByteArray)) (hr_a0 : RdS Z cS 1 A_a0 c_a0 a0) (a1 : Int) (r : Bool) (h0 : law08_FileSums a0 a1 = some r) :
    Calls prog 4 #[.slice A_a0 a0.length c_a0, .int .i64 a1] w (fun e w' => e = .returned (.bool r) ∧ Inv w0 Z w' A) := by
  have e4 := calls_intro (R := (fun e w' => e = .returned (.bool r) ∧ Inv w0 Z w' A)) (w := w) (args := [.slice A_a0 a0.length c_a0, .int .i64 a1]) (fn := Go.Proofs.Tryd.f4) 130 Go.Proofs.Tryd.func4 (by rfl) Go.Proofs.Tryd.ntmps4 (by kernel_rfl)
  refine e4 ?_
  clear e4
  unfold law08_FileSums at h0
  refine CodT.seq ?_
  refine CodT.regionL [0] (by kernel_rfl) ?_
  refine OpsT.pures (r := []) [0] [0, 1] (S' := [(0, .slice A_a0 a0.length c_a0), (1, .int .i64 a1)]) (by kernel_rfl) ?_
  refine OpsT.done ?_
  refine Qn.then ?_
  refine CodT.seq ?_
  refine CodT.regionL [0, 1] (by kernel_rfl) ?_
  obtain ⟨y2, hc1, h0⟩ := bindS h0
  try dsimp only at h0
  refine OpsT.cons (Does.call (d := some 16) (n := 9) (vs := []) (by kernel_rfl) en9 (c9 w0 w _ _ hI hT _ hc1) ?_)
  rintro e w ⟨rfl, hI⟩
  refine ⟨_, rfl, ?_⟩
  refine OpsT.pures (r := []) [1] [0, 1, 5] (S' := [(0, .slice A_a0 a0.length c_a0), (1, .int .i64 a1), (5, .bool y2)]) (by kernel_rfl) ?_
  refine OpsT.done ?_
  refine Qn.then ?_
  refine CodT.seq ?_
  refine CodT.seq ?_
  refine CodT.regionL [0, 1] (by kernel_rfl) ?_
  refine OpsT.pures (r := []) [0, 1] [0, 1, 5, 18] (S' := [(0, .slice A_a0 a0.length c_a0), (1, .int .i64 a1), (5, .bool y2), (18, .bool (!y2))]) (by kernel_rfl) ?_
  refine OpsT.done ?_
  refine Qn.then ?_
  by_cases hb3 : (!y2) = true
  · rw [if_pos hb3] at h0
    refine CodT.yes' (b := !y2) (by kernel_rfl) hb3 ?_
    refine CodT.seq ?_
    refine CodT.regionL [0] (by kernel_rfl) ?_
    refine OpsT.pures (r := []) [0] [4] (S' := [(4, .bool false)]) (by kernel_rfl) ?_
    refine OpsT.done ?_
    refine Qn.then ?_
    refine CodT.ret ?_
    refine Qn.ret_then ?_
    have e := someS h0
    subst e
    refine Qn.keep [4] (S' := [(4, .bool false)]) (by kernel_rfl) ?_
    exact post_ret (v := .bool false) (fun a ha => RunRes.run (vs := [.bool false]) (.tmp (t := 4) (by kernel_rfl) .nil) ha (by kernel_rfl)) ⟨rfl, hI⟩
  · rw [if_neg hb3] at h0
    refine CodT.no' (b := !y2) (by kernel_rfl) (by simpa using hb3) ?_
    refine CodT.skip ?_
    refine Qn.then ?_
    refine CodT.seq ?_
    obtain ⟨r1, h1, h0⟩ := bindS h0
    refine CodT.meet (fun a w => ∃ (x4 : Bool), x4 = r1 ∧ Fr 130 [(0, .slice A_a0 a0.length c_a0), (1, .int .i64 a1), (5, .bool y2), (29, .bool x4)] a ∧ Inv w0 Z w A) ?_ ?_
    ·
      refine CodT.regionL [0, 1, 2, 3, 4, 5, 6, 7, 8, 9, 10] (by kernel_rfl) ?_
      refine OpsT.pures (r := [4, 5, 6, 7, 8, 9, 10]) [0, 1, 2, 3] [0, 1, 5, 22] (S' := [(0, .slice A_a0 a0.length c_a0), (1, .int .i64 a1), (5, .bool y2), (22, .bool (decide ((a0.length : Int) > 20)))]) (by kernel_rfl) ?_
      by_cases hb5 : (decide ((a0.length : Int) > 20)) = true
      · rw [if_pos hb5] at h1
        refine OpsT.keep [0, 1, 5, 22] (S' := [(0, .slice A_a0 a0.length c_a0), (1, .int .i64 a1), (5, .bool y2), (22, .bool true)]) (by (try simp only [hb5]); kernel_rfl) ?_
        refine OpsT.pures (r := []) [4, 5, 6, 7, 8, 9, 10] [0, 1, 5, 29] (S' := [(0, .slice A_a0 a0.length c_a0), (1, .int .i64 a1), (5, .bool y2), (29, .bool true)]) (by kernel_rfl) ?_
        refine OpsT.done ?_
        have e := someS h1
        subst e
        exact Qn.thenJ fun a ha => ⟨true, rfl, ha.keep [0, 1, 5, 29] (by kernel_rfl), hI⟩
      · rw [if_neg hb5] at h1
        have hb5 : (decide ((a0.length : Int) > 20)) = false := by simpa using hb5
        refine OpsT.keep [0, 1, 5, 22] (S' := [(0, .slice A_a0 a0.length c_a0), (1, .int .i64 a1), (5, .bool y2), (22, .bool false)]) (by (try simp only [hb5]); kernel_rfl) ?_
        refine OpsT.pures (r := [8, 9, 10]) [4, 5, 6, 7] [0, 1, 5, 26] (S' := [(0, .slice A_a0 a0.length c_a0), (1, .int .i64 a1), (5, .bool y2), (26, .bool (decide (a1 < 0)))]) (by kernel_rfl) ?_
        by_cases hb6 : (decide (a1 < 0)) = true
        · rw [if_pos hb6] at h1
          refine OpsT.keep [0, 1, 5, 26] (S' := [(0, .slice A_a0 a0.length c_a0), (1, .int .i64 a1), (5, .bool y2), (26, .bool true)]) (by (try simp only [hb6]); kernel_rfl) ?_
          refine OpsT.pures (r := []) [8, 9, 10] [0, 1, 5, 29] (S' := [(0, .slice A_a0 a0.length c_a0), (1, .int .i64 a1), (5, .bool y2), (29, .bool true)]) (by kernel_rfl) ?_
          refine OpsT.done ?_
          have e := someS h1
          subst e
          exact Qn.thenJ fun a ha => ⟨true, rfl, ha.keep [0, 1, 5, 29] (by kernel_rfl), hI⟩
        · rw [if_neg hb6] at h1
          have hb6 : (decide (a1 < 0)) = false := by simpa using hb6
          refine OpsT.keep [0, 1, 5, 26] (S' := [(0, .slice A_a0 a0.length c_a0), (1, .int .i64 a1), (5, .bool y2), (26, .bool false)]) (by (try simp only [hb6]); kernel_rfl) ?_
          refine OpsT.pures (r := []) [8, 9, 10] [0, 1, 5, 29] (S' := [(0, .slice A_a0 a0.length c_a0), (1, .int .i64 a1), (5, .bool y2), (29, .bool (decide (a1 > 1099511627776)))]) (by kernel_rfl) ?_
          refine OpsT.done ?_
          have e := someS h1
          subst e
          exact Qn.thenJ fun a ha => ⟨decide (a1 > 1099511627776), rfl, ha.keep [0, 1, 5, 29] (by kernel_rfl), hI⟩
    ·
      rintro a w ⟨x4, rfl, ha, hI⟩
      try dsimp only at h0
      refine CodT.of ?_ ha
      by_cases hb7 : x4 = true
      · rw [if_pos hb7] at h0
        refine CodT.yes' (b := x4) (by kernel_rfl) hb7 ?_
        refine CodT.seq ?_
        refine CodT.regionL [0, 1] (by kernel_rfl) ?_
        refine OpsT.pures (r := []) [0, 1] [4] (S' := [(4, .bool y2)]) (by kernel_rfl) ?_
        refine OpsT.done ?_
        refine Qn.then ?_
        refine CodT.ret ?_
        refine Qn.ret_then ?_
        have e := someS h0
        subst e
        refine Qn.keep [4] (S' := [(4, .bool y2)]) (by kernel_rfl) ?_
        exact post_ret (v := .bool y2) (fun a ha => RunRes.run (vs := [.bool y2]) (.tmp (t := 4) (by kernel_rfl) .nil) ha (by kernel_rfl)) ⟨rfl, hI⟩
      · rw [if_neg hb7] at h0
        refine CodT.no' (b := x4) (by kernel_rfl) (by simpa using hb7) ?_
        refine CodT.skip ?_
        refine Qn.then ?_
        refine CodT.seq ?_
        refine CodT.regionL [0, 1, 2, 3, 4, 5, 6] (by kernel_rfl) ?_
        obtain ⟨⟨y9, y10, y11, y12, y13, y14, y17⟩, hc8, h0⟩ := bindS h0
        try dsimp only at h0
        refine OpsT.cons (Does.call (d := some 32) (n := 13) (vs := [.int .i64 5, .string (⟨#[110]⟩ : ByteArray)]) (by kernel_rfl) en13 (c13 w0 w _ _ hI hT 5 (⟨#[110]⟩ : ByteArray) _ hc8) ?_)
        rintro e w ⟨A15, cp16, rfl, hI⟩
        refine ⟨_, rfl, ?_⟩
        refine OpsT.pures (r := [4, 5, 6]) [1, 2, 3] [0, 1, 5, 33, 34] (S' := [(0, .slice A_a0 a0.length c_a0), (1, .int .i64 a1), (5, .bool y2), (33, .agg ((([.int .i64 y9, .string y10, .string y11, .bool y12, .int .i64 y13, .slice A15 y14.length cp16] : List Value))).toArray), (34, .int .i64 y17)]) (by kernel_rfl) ?_
        refine OpsT.cons (Does.allocL (d := 6) (T := 24) ((([.int .i64 0, .string (⟨#[]⟩ : ByteArray), .string (⟨#[]⟩ : ByteArray), .bool false, .int .i64 0, .slice none 0 0] : List Value))) (by kernel_rfl) ty24 hI (by kernel_rfl) ?_)
        intro b18 w hI
        refine OpsT.cons (Does.storeLit (T := 24) (b := b18) (o := 0) (v := .agg ((([.int .i64 y9, .string y10, .string y11, .bool y12, .int .i64 y13, .slice A15 y14.length cp16] : List Value))).toArray) (l := (([.int .i64 0, .string (⟨#[]⟩ : ByteArray), .string (⟨#[]⟩ : ByteArray), .bool false, .int .i64 0, .slice none 0 0] : List Value))) (vs := (([.int .i64 y9, .string y10, .string y11, .bool y12, .int .i64 y13, .slice A15 y14.length cp16] : List Value))) (L' := (([.int .i64 y9, .string y10, .string y11, .bool y12, .int .i64 y13, .slice A15 y14.length cp16] : List Value))) (by kernel_rfl) ty24 hI (by kernel_rfl) (by kernel_rfl) (by kernel_rfl) (by kernel_rfl) (by kernel_rfl) ?_)
        intro w hI
        refine OpsT.pures (r := []) [6] [0, 1, 5, 6] (S' := [(0, .slice A_a0 a0.length c_a0), (1, .int .i64 a1), (5, .bool y2), (6, .pointer (some ⟨b18, 0, none⟩))]) (by kernel_rfl) ?_
        refine OpsT.done ?_
        refine Qn.then ?_
        refine CodT.seq ?_
        refine CodT.regionL [0] (by kernel_rfl) ?_
        refine OpsT.pures (r := []) [0] [0, 1, 5, 6, 8] (S' := [(0, .slice A_a0 a0.length c_a0), (1, .int .i64 a1), (5, .bool y2), (6, .pointer (some ⟨b18, 0, none⟩)), (8, .string (⟨#[]⟩ : ByteArray))]) (by kernel_rfl) ?_
        refine OpsT.done ?_
        refine Qn.then ?_
        refine CodT.seq ?_
        refine CodT.seq ?_
        refine CodT.regionL [0] (by kernel_rfl) ?_
        refine OpsT.pures (r := []) [0] [0, 1, 5, 6, 8, 9] (S' := [(0, .slice A_a0 a0.length c_a0), (1, .int .i64 a1), (5, .bool y2), (6, .pointer (some ⟨b18, 0, none⟩)), (8, .string (⟨#[]⟩ : ByteArray)), (9, .int .i64 0)]) (by kernel_rfl) ?_
        refine OpsT.done ?_
        refine Qn.then ?_
        obtain ⟨r1, h1, h0⟩ := bindS h0
        refine CodT.meet1 (fun a w => ∃ (x21 : ByteArray) (x22 : Int) (x23 : ByteArray) (x24 : ByteArray) (x25 : Bool) (x26 : Int) (x27 : (List ByteArray)) (Z19 : Hp) (A28 : Option Addr) (cp29 : Nat), .inr (x21, x22, x23, x24, x25, x26, x27) = r1 ∧ Fr 130 [(1, .int .i64 a1), (5, .bool y2), (6, .pointer (some ⟨b18, 0, none⟩)), (8, .string x21)] a ∧ Inv w0 Z19 w (star (pt b18 (.cells ((([.int .i64 x22, .string x23, .string x24, .bool x25, .int .i64 x26, .slice A28 x27.length cp29] : List Value))).toArray 24 (0, 0))) A) ∧ Z.le Z19 ∧ RdS Z19 cS 1 A28 cp29 x27) ?_ ?_
        ·
          refine CodT.block ?_
          have hI := hI.mono (pick2 _ _ _)
          obtain ⟨Z44, hle45, hr46, hI⟩ := ownS_freeze hI
          refine (fun a ha => wp_loopN (fun k a w => ∃ (x33 : ByteArray) (x34 : Int) (x35 : Int) (x36 : ByteArray) (x37 : ByteArray) (x38 : Bool) (x39 : Int) (x40 : (List ByteArray)) (Z31 : Hp) (A41 : Option Addr) (cp42 : Nat), law08_FileSums.l0 a0 y2 k x33 x34 x35 x36 x37 x38 x39 x40 = some r1 ∧ Fr 130 [(0, .slice A_a0 a0.length c_a0), (1, .int .i64 a1), (5, .bool y2), (6, .pointer (some ⟨b18, 0, none⟩)), (8, .string x33), (9, .int .i64 x34)] a ∧ Inv w0 Z31 w (star (pt b18 (.cells ((([.int .i64 x35, .string x36, .string x37, .bool x38, .int .i64 x39, .slice A41 x40.length cp42] : List Value))).toArray 24 (0, 0))) A) ∧ Z.le Z31 ∧ RdS Z31 cS 1 A41 cp42 x40) ?_ FU a w ⟨(⟨#[]⟩ : ByteArray), 0, y9, y10, y11, y12, y13, y14, Z44, A15, cp16, h1, ha.keep [0, 1, 5, 6, 8, 9] (by kernel_rfl), hI, hle45, hr46⟩)
          clear h1 hI
          rintro k a w ⟨x33, x34, x35, x36, x37, x38, x39, x40, Z31, A41, cp42, h1, ha, hI, hle32, hr43⟩
          rcases k with _ | k
          · cases h1
          simp only [law08_FileSums.l0] at h1
          refine CodT.of ?_ ha
          refine CodT.seq ?_
          refine CodT.seq ?_
          refine CodT.regionL [0, 1, 2, 3] (by kernel_rfl) ?_
          refine OpsT.pures (r := []) [0, 1, 2, 3] [0, 1, 5, 6, 8, 9, 38] (S' := [(0, .slice A_a0 a0.length c_a0), (1, .int .i64 a1), (5, .bool y2), (6, .pointer (some ⟨b18, 0, none⟩)), (8, .string x33), (9, .int .i64 x34), (38, .bool (decide (x34 < (a0.length : Int))))]) (by kernel_rfl) ?_
          refine OpsT.done ?_
          refine Qn.then ?_
          by_cases hb47 : (decide (x34 < (a0.length : Int))) = true
          · rw [if_pos hb47] at h1
            refine CodT.yes' (b := decide (x34 < (a0.length : Int))) (by kernel_rfl) hb47 ?_
            refine CodT.skip ?_
            refine Qn.then ?_
            obtain ⟨r2, h2, h1⟩ := bindS h1
            refine CodT.meet (fun a w => ∃ (x50 : ByteArray) (x51 : Int) (x52 : ByteArray) (x53 : ByteArray) (x54 : Bool) (x55 : Int) (x56 : (List ByteArray)) (Z48 : Hp) (A57 : Option Addr) (cp58 : Nat), .inr (x50, x51, x52, x53, x54, x55, x56) = r2 ∧ Fr 130 [(0, .slice A_a0 a0.length c_a0), (1, .int .i64 a1), (5, .bool y2), (6, .pointer (some ⟨b18, 0, none⟩)), (8, .string x50), (9, .int .i64 x34)] a ∧ Inv w0 Z48 w (star (pt b18 (.cells ((([.int .i64 x51, .string x52, .string x53, .bool x54, .int .i64 x55, .slice A57 x56.length cp58] : List Value))).toArray 24 (0, 0))) A) ∧ Z31.le Z48 ∧ RdS Z48 cS 1 A57 cp58 x56) ?_ ?_
            ·
              refine CodT.block ?_
              refine CodT.seq ?_
              refine CodT.seq ?_
              refine CodT.regionL [0, 1, 2, 3, 4, 5] (by kernel_rfl) ?_
              refine OpsT.pures (r := [2, 3, 4, 5]) [0, 1] [0, 1, 5, 6, 8, 9, 41, 42] (S' := [(0, .slice A_a0 a0.length c_a0), (1, .int .i64 a1), (5, .bool y2), (6, .pointer (some ⟨b18, 0, none⟩)), (8, .string x33), (9, .int .i64 x34), (41, .slice A_a0 a0.length c_a0), (42, .int .i64 x34)]) (by kernel_rfl) ?_
              obtain ⟨hg60, h2⟩ := guardS h2
              obtain ⟨g61, o65, hA62, hr63, hl64⟩ := RdS.get (hr_a0.mono hle32) hg60.1 hg60.2
              refine OpsT.cons (Does.yi (Yl.indexSlice (d := 43) (T := 22) (cc := c_a0) (k := .i64) (j := x34) (g := g61) (o := o65) (by kernel_rfl) Go.Proofs.Tryd.underlying22 ty9 hA62 hg60.1 hg60.2) hI ?_)
              refine OpsT.cons (Does.yi (Yl.load (d := 44) (T := 9) (v := .string (gt a0 x34)) (by kernel_rfl) (ldR ty9 (v := .string (gt a0 x34)) 0 (fun w hC => hr63 w0 w _ hC) (by kernel_rfl))) hI ?_)
              refine OpsT.pures (r := []) [4, 5] [0, 1, 5, 6, 8, 9, 46] (S' := [(0, .slice A_a0 a0.length c_a0), (1, .int .i64 a1), (5, .bool y2), (6, .pointer (some ⟨b18, 0, none⟩)), (8, .string x33), (9, .int .i64 x34), (46, .bool (decide (((gt a0 x34).size : Int) > 700)))]) (by kernel_rfl) ?_
              refine OpsT.done ?_
              refine Qn.then ?_
              by_cases hb66 : (decide (((gt a0 x34).size : Int) > 700)) = true
              · rw [if_pos hb66] at h2
                refine CodT.yes' (b := decide (((gt a0 x34).size : Int) > 700)) (by kernel_rfl) hb66 ?_
                refine CodT.seq ?_
                refine CodT.regionL [0, 1] (by kernel_rfl) ?_
                refine OpsT.pures (r := []) [0, 1] [4] (S' := [(4, .bool y2)]) (by kernel_rfl) ?_
                refine OpsT.done ?_
                refine Qn.then ?_
                refine CodT.ret ?_
                refine Qn.ret_then ?_
                refine Qn.block_ret ?_
                refine Qn.ret_then ?_
                refine Qn.ret_then ?_
                refine Qn.block_ret ?_
                refine Qn.ret_then ?_
                refine Qn.ret_then ?_
                have hI := hI.drop
                have e := someS h2
                subst e
                try dsimp only at h1
                have e := someS h1
                subst e
                try dsimp only at h0
                have e := someS h0
                subst e
                refine Qn.keep [4] (S' := [(4, .bool y2)]) (by kernel_rfl) ?_
                exact post_ret (v := .bool y2) (fun a ha => RunRes.run (vs := [.bool y2]) (.tmp (t := 4) (by kernel_rfl) .nil) ha (by kernel_rfl)) ⟨rfl, hI.weaken hle32⟩
              · rw [if_neg hb66] at h2
                refine CodT.no' (b := decide (((gt a0 x34).size : Int) > 700)) (by kernel_rfl) (by simpa using hb66) ?_
                refine CodT.skip ?_
                refine Qn.then ?_
                obtain ⟨r3, h3, h2⟩ := bindS h2
                refine CodT.meet (fun a w => ∃ (x70 : Int) (x71 : ByteArray) (x72 : ByteArray) (x73 : Bool) (x74 : Int) (x75 : (List ByteArray)) (x80 : ApiEvent) (x82 : Int) (Z67 : Hp) (b69 : Nat) (A76 : Option Addr) (cp77 : Nat) (b79 : Nat), (x70, x71, x72, x73, x74, x75, x80, x82) = r3 ∧ Fr 130 [(0, .slice A_a0 a0.length c_a0), (1, .int .i64 a1), (5, .bool y2), (6, .pointer (some ⟨b18, 0, none⟩)), (8, .string x33), (9, .int .i64 x34), (10, .pointer (some ⟨b69, 0, none⟩)), (11, .pointer (some ⟨b79, 0, none⟩)), (12, .int .i64 x82)] a ∧ Inv w0 Z67 w (star (pt b69 (.cells ((([.int .i64 x70, .string x71, .string x72, .bool x73, .int .i64 x74, .slice A76 x75.length cp77] : List Value))).toArray 24 (0, 0))) (star (pt b79 (.cells (c_ApiEvent x80).toArray 39 (0, 0))) (star (pt b18 (.cells ((([.int .i64 x35, .string x36, .string x37, .bool x38, .int .i64 x39, .slice A41 x40.length cp42] : List Value))).toArray 24 (0, 0))) A))) ∧ Z31.le Z67 ∧ RdS Z67 cS 1 A76 cp77 x75 ∧ x80.Sum.length = 32) ?_ ?_
                ·
                  refine CodT.drawI (n := 16) [13, 14] (by kernel_rfl) (by kernel_rfl) hI ?_
                  intro w hI
                  refine GmT.p' 1 50 (.slice A_a0 a0.length c_a0) (by kernel_rfl) (by kernel_rfl) ?_
                  refine GmT.p' 2 51 (.int .i64 x34) (by kernel_rfl) (by kernel_rfl) ?_
                  refine GmT.r (i := 0) 2 (by kernel_rfl) (by kernel_rfl) (Yl.load (d := 49) (T := 24) (v := .agg ((([.int .i64 x35, .string x36, .string x37, .bool x38, .int .i64 x39, .slice A41 x40.length cp42] : List Value))).toArray) (by kernel_rfl) (ldBN ty24 (l := (([.int .i64 x35, .string x36, .string x37, .bool x38, .int .i64 x39, .slice A41 x40.length cp42] : List Value))) (o := 0) (cs := (([.int .i64 x35, .string x36, .string x37, .bool x38, .int .i64 x39, .slice A41 x40.length cp42] : List Value))) (ent_refl _) (by kernel_rfl) (whole _ _ (by kernel_rfl)))) hI ?_
                  obtain ⟨hg83, h3⟩ := guardS h3
                  obtain ⟨g84, o88, hA85, hr86, hl87⟩ := RdS.get (hr_a0.mono hle32) hg83.1 hg83.2
                  refine GmT.r (i := 3) 2 (by kernel_rfl) (by kernel_rfl) (Yl.indexSlice (d := 52) (T := 22) (cc := c_a0) (k := .i64) (j := x34) (g := g84) (o := o88) (by kernel_rfl) Go.Proofs.Tryd.underlying22 ty9 hA85 hg83.1 hg83.2) hI ?_
                  refine GmT.r (i := 4) 2 (by kernel_rfl) (by kernel_rfl) (Yl.load (d := 53) (T := 9) (v := .string (gt a0 x34)) (by kernel_rfl) (ldR ty9 (v := .string (gt a0 x34)) 0 (fun w hC => hr86 w0 w _ hC) (by kernel_rfl))) hI ?_
                  refine GmT.p' 5 54 (.agg (c_ApiOp (ApiOp.mk 1 (⟨#[]⟩ : ByteArray) (gt a0 x34) 0 0 0)).toArray) (by kernel_rfl) (by kernel_rfl) ?_
                  refine GmT.several [6, 11, 12] (by kernel_rfl) rfl ?_
                  intro i hi; simp only [List.mem_cons, List.not_mem_nil, or_false] at hi; rcases hi with rfl | rfl | rfl
                  ·
                    obtain ⟨⟨y90, y91, y92, y93, y94, y95, y99, y101⟩, hc89, h3⟩ := bindS h3
                    try dsimp only at h3
                    rw [lst_set]
                    refine (Does.call (d := some 55) (n := 20) (vs := [.agg ((([.int .i64 x35, .string x36, .string x37, .bool x38, .int .i64 x39, .slice A41 x40.length cp42] : List Value))).toArray, .agg (c_ApiOp (ApiOp.mk 1 (⟨#[]⟩ : ByteArray) (gt a0 x34) 0 0 0)).toArray, .int .i64 0]) (by kernel_rfl) en20 (c20 w0 w _ _ hI (hT.mono hle32) x35 x36 x37 x38 x39 A41 cp42 x40 hr43 (ApiOp.mk 1 (⟨#[]⟩ : ByteArray) (gt a0 x34) 0 0 0) 0 _ hc89) ?_)
                    rintro e w ⟨A96, cp97, Z102, hle103, rfl, hr98, hl100, hI⟩
                    refine ⟨_, rfl, ?_⟩
                    have hC := hI
                    have hC := hC.weaken hle103
                    refine ⟨fun _ _ => hC, ?_⟩
                    refine GmT.p' 7 48 (.tuple #[.agg ((([.int .i64 y90, .string y91, .string y92, .bool y93, .int .i64 y94, .slice A96 y95.length cp97] : List Value))).toArray, .agg (c_ApiEvent y99).toArray, .int .i64 y101]) (by kernel_rfl) (by kernel_rfl) ?_
                    refine GmT.p' 8 56 (.agg ((([.int .i64 y90, .string y91, .string y92, .bool y93, .int .i64 y94, .slice A96 y95.length cp97] : List Value))).toArray) (by kernel_rfl) (by kernel_rfl) ?_
                    refine GmT.p' 9 57 (.agg (c_ApiEvent y99).toArray) (by kernel_rfl) (by kernel_rfl) ?_
                    refine GmT.p' 10 58 (.int .i64 y101) (by kernel_rfl) (by kernel_rfl) ?_
                    refine GmT.several [11, 12] (by kernel_rfl) rfl ?_
                    intro i hi; simp only [List.mem_cons, List.not_mem_nil, or_false] at hi; rcases hi with rfl | rfl
                    ·
                      rw [lst_set]
                      refine (Does.allocL (d := 10) (T := 24) ((([.int .i64 0, .string (⟨#[]⟩ : ByteArray), .string (⟨#[]⟩ : ByteArray), .bool false, .int .i64 0, .slice none 0 0] : List Value))) (by kernel_rfl) ty24 hI (by kernel_rfl) ?_)
                      intro b104 w hI
                      have hC := hI
                      have hC := hC.drop
                      have hC := hC.weaken hle103
                      refine ⟨fun _ _ => hC, ?_⟩
                      refine GmT.o (i := 12) (by kernel_rfl) (Does.allocL (d := 11) (T := 39) (c_ApiEvent (ApiEvent.mk 0 0 (⟨#[]⟩ : ByteArray) 0 0 (List.replicate 32 (0 : Int)))) (by kernel_rfl) ty39 hI (by kernel_rfl) ?_)
                      intro b105 w hI
                      have hC := hI
                      have hC := hC.drop
                      have hC := hC.drop
                      have hC := hC.weaken hle103
                      refine ⟨fun _ _ => hC, ?_⟩
                      have hI := hI.mono (pick2 _ _ _)
                      refine GmT.o (i := 13) (by kernel_rfl) (Does.storeLit (T := 24) (b := b104) (o := 0) (v := .agg ((([.int .i64 y90, .string y91, .string y92, .bool y93, .int .i64 y94, .slice A96 y95.length cp97] : List Value))).toArray) (l := (([.int .i64 0, .string (⟨#[]⟩ : ByteArray), .string (⟨#[]⟩ : ByteArray), .bool false, .int .i64 0, .slice none 0 0] : List Value))) (vs := (([.int .i64 y90, .string y91, .string y92, .bool y93, .int .i64 y94, .slice A96 y95.length cp97] : List Value))) (L' := (([.int .i64 y90, .string y91, .string y92, .bool y93, .int .i64 y94, .slice A96 y95.length cp97] : List Value))) (by kernel_rfl) ty24 hI (by kernel_rfl) (by kernel_rfl) (by kernel_rfl) (by kernel_rfl) (by kernel_rfl) ?_)
                      intro w hI
                      refine ⟨fun h => absurd h (by decide), ?_⟩
                      have hI := hI.mono (pick2 _ _ _)
                      refine GmT.o (i := 14) (by kernel_rfl) (Does.storeLit (T := 39) (b := b105) (o := 0) (v := .agg (c_ApiEvent y99).toArray) (l := c_ApiEvent (ApiEvent.mk 0 0 (⟨#[]⟩ : ByteArray) 0 0 (List.replicate 32 (0 : Int)))) (vs := c_ApiEvent y99) (L' := c_ApiEvent y99) (by kernel_rfl) ty39 hI (by kernel_rfl) (len_ApiEvent _ hl100) (by rw [(len_ApiEvent _ (by kernel_rfl))]; kernel_rfl) (ones_app _ _ (by kernel_rfl) (ones_cA _)) (lset_all _ _ (Eq.trans (len_ApiEvent _ hl100) (Eq.symm (len_ApiEvent _ (by kernel_rfl))))) ?_)
                      intro w hI
                      refine ⟨fun h => absurd h (by decide), ?_⟩
                      refine GmT.p' 15 12 (.int .i64 y101) (by kernel_rfl) (by kernel_rfl) ?_
                      refine GmT.done (by kernel_rfl) ?_
                      have hI := hI.mono (pick3 _ _ _ _)
                      have hI := hI.mono (pick2 _ _ _)
                      have hI := hI.mono (pick3 _ _ _ _)
                      have e := someS h3
                      subst e
                      exact Qn.thenJ fun a ha => ⟨y90, y91, y92, y93, y94, y95, y99, y101, Z102, b104, A96, cp97, b105, rfl, ha.keep [0, 1, 5, 6, 8, 9, 10, 11, 12] (by kernel_rfl), hI, hle103, hr98, hl100⟩
                    ·
                      rw [lst_set]
                      refine (Does.allocL (d := 11) (T := 39) (c_ApiEvent (ApiEvent.mk 0 0 (⟨#[]⟩ : ByteArray) 0 0 (List.replicate 32 (0 : Int)))) (by kernel_rfl) ty39 hI (by kernel_rfl) ?_)
                      intro b106 w hI
                      have hC := hI
                      have hC := hC.drop
                      have hC := hC.weaken hle103
                      refine ⟨fun _ _ => hC, ?_⟩
                      refine GmT.o (i := 11) (by kernel_rfl) (Does.allocL (d := 10) (T := 24) ((([.int .i64 0, .string (⟨#[]⟩ : ByteArray), .string (⟨#[]⟩ : ByteArray), .bool false, .int .i64 0, .slice none 0 0] : List Value))) (by kernel_rfl) ty24 hI (by kernel_rfl) ?_)
                      intro b107 w hI
                      have hC := hI
                      have hC := hC.drop
                      have hC := hC.drop
                      have hC := hC.weaken hle103
                      refine ⟨fun _ _ => hC, ?_⟩
                      refine GmT.o (i := 13) (by kernel_rfl) (Does.storeLit (T := 24) (b := b107) (o := 0) (v := .agg ((([.int .i64 y90, .string y91, .string y92, .bool y93, .int .i64 y94, .slice A96 y95.length cp97] : List Value))).toArray) (l := (([.int .i64 0, .string (⟨#[]⟩ : ByteArray), .string (⟨#[]⟩ : ByteArray), .bool false, .int .i64 0, .slice none 0 0] : List Value))) (vs := (([.int .i64 y90, .string y91, .string y92, .bool y93, .int .i64 y94, .slice A96 y95.length cp97] : List Value))) (L' := (([.int .i64 y90, .string y91, .string y92, .bool y93, .int .i64 y94, .slice A96 y95.length cp97] : List Value))) (by kernel_rfl) ty24 hI (by kernel_rfl) (by kernel_rfl) (by kernel_rfl) (by kernel_rfl) (by kernel_rfl) ?_)
                      intro w hI
                      refine ⟨fun h => absurd h (by decide), ?_⟩
                      have hI := hI.mono (pick2 _ _ _)
                      refine GmT.o (i := 14) (by kernel_rfl) (Does.storeLit (T := 39) (b := b106) (o := 0) (v := .agg (c_ApiEvent y99).toArray) (l := c_ApiEvent (ApiEvent.mk 0 0 (⟨#[]⟩ : ByteArray) 0 0 (List.replicate 32 (0 : Int)))) (vs := c_ApiEvent y99) (L' := c_ApiEvent y99) (by kernel_rfl) ty39 hI (by kernel_rfl) (len_ApiEvent _ hl100) (by rw [(len_ApiEvent _ (by kernel_rfl))]; kernel_rfl) (ones_app _ _ (by kernel_rfl) (ones_cA _)) (lset_all _ _ (Eq.trans (len_ApiEvent _ hl100) (Eq.symm (len_ApiEvent _ (by kernel_rfl))))) ?_)
                      intro w hI
                      refine ⟨fun h => absurd h (by decide), ?_⟩
                      refine GmT.p' 15 12 (.int .i64 y101) (by kernel_rfl) (by kernel_rfl) ?_
                      refine GmT.done (by kernel_rfl) ?_
                      have hI := hI.mono (pick3 _ _ _ _)
                      have hI := hI.mono (pick2 _ _ _)
                      have hI := hI.mono (pick3 _ _ _ _)
                      have e := someS h3
                      subst e
                      exact Qn.thenJ fun a ha => ⟨y90, y91, y92, y93, y94, y95, y99, y101, Z102, b107, A96, cp97, b106, rfl, ha.keep [0, 1, 5, 6, 8, 9, 10, 11, 12] (by kernel_rfl), hI, hle103, hr98, hl100⟩
                  ·
                    rw [lst_set]
                    refine (Does.allocL (d := 10) (T := 24) ((([.int .i64 0, .string (⟨#[]⟩ : ByteArray), .string (⟨#[]⟩ : ByteArray), .bool false, .int .i64 0, .slice none 0 0] : List Value))) (by kernel_rfl) ty24 hI (by kernel_rfl) ?_)
                    intro b108 w hI
                    have hC := hI
                    have hC := hC.drop
                    refine ⟨fun _ _ => hC, ?_⟩
                    refine GmT.several [6, 12] (by kernel_rfl) rfl ?_
                    intro i hi; simp only [List.mem_cons, List.not_mem_nil, or_false] at hi; rcases hi with rfl | rfl
                    ·
                      obtain ⟨⟨y110, y111, y112, y113, y114, y115, y119, y121⟩, hc109, h3⟩ := bindS h3
                      try dsimp only at h3
                      rw [lst_set]
                      refine (Does.call (d := some 55) (n := 20) (vs := [.agg ((([.int .i64 x35, .string x36, .string x37, .bool x38, .int .i64 x39, .slice A41 x40.length cp42] : List Value))).toArray, .agg (c_ApiOp (ApiOp.mk 1 (⟨#[]⟩ : ByteArray) (gt a0 x34) 0 0 0)).toArray, .int .i64 0]) (by kernel_rfl) en20 (c20 w0 w _ _ hI (hT.mono hle32) x35 x36 x37 x38 x39 A41 cp42 x40 hr43 (ApiOp.mk 1 (⟨#[]⟩ : ByteArray) (gt a0 x34) 0 0 0) 0 _ hc109) ?_)
                      rintro e w ⟨A116, cp117, Z122, hle123, rfl, hr118, hl120, hI⟩
                      refine ⟨_, rfl, ?_⟩
                      have hC := hI
                      have hC := hC.drop
                      have hC := hC.weaken hle123
                      refine ⟨fun _ _ => hC, ?_⟩
                      refine GmT.p' 7 48 (.tuple #[.agg ((([.int .i64 y110, .string y111, .string y112, .bool y113, .int .i64 y114, .slice A116 y115.length cp117] : List Value))).toArray, .agg (c_ApiEvent y119).toArray, .int .i64 y121]) (by kernel_rfl) (by kernel_rfl) ?_
                      refine GmT.p' 8 56 (.agg ((([.int .i64 y110, .string y111, .string y112, .bool y113, .int .i64 y114, .slice A116 y115.length cp117] : List Value))).toArray) (by kernel_rfl) (by kernel_rfl) ?_
                      refine GmT.p' 9 57 (.agg (c_ApiEvent y119).toArray) (by kernel_rfl) (by kernel_rfl) ?_
                      refine GmT.p' 10 58 (.int .i64 y121) (by kernel_rfl) (by kernel_rfl) ?_
                      refine GmT.o (i := 12) (by kernel_rfl) (Does.allocL (d := 11) (T := 39) (c_ApiEvent (ApiEvent.mk 0 0 (⟨#[]⟩ : ByteArray) 0 0 (List.replicate 32 (0 : Int)))) (by kernel_rfl) ty39 hI (by kernel_rfl) ?_)
                      intro b124 w hI
                      have hC := hI
                      have hC := hC.drop
                      have hC := hC.drop
                      have hC := hC.weaken hle123
                      refine ⟨fun _ _ => hC, ?_⟩
                      have hI := hI.mono (pick2 _ _ _)
                      refine GmT.o (i := 13) (by kernel_rfl) (Does.storeLit (T := 24) (b := b108) (o := 0) (v := .agg ((([.int .i64 y110, .string y111, .string y112, .bool y113, .int .i64 y114, .slice A116 y115.length cp117] : List Value))).toArray) (l := (([.int .i64 0, .string (⟨#[]⟩ : ByteArray), .string (⟨#[]⟩ : ByteArray), .bool false, .int .i64 0, .slice none 0 0] : List Value))) (vs := (([.int .i64 y110, .string y111, .string y112, .bool y113, .int .i64 y114, .slice A116 y115.length cp117] : List Value))) (L' := (([.int .i64 y110, .string y111, .string y112, .bool y113, .int .i64 y114, .slice A116 y115.length cp117] : List Value))) (by kernel_rfl) ty24 hI (by kernel_rfl) (by kernel_rfl) (by kernel_rfl) (by kernel_rfl) (by kernel_rfl) ?_)
                      intro w hI
                      refine ⟨fun h => absurd h (by decide), ?_⟩
                      have hI := hI.mono (pick2 _ _ _)
                      refine GmT.o (i := 14) (by kernel_rfl) (Does.storeLit (T := 39) (b := b124) (o := 0) (v := .agg (c_ApiEvent y119).toArray) (l := c_ApiEvent (ApiEvent.mk 0 0 (⟨#[]⟩ : ByteArray) 0 0 (List.replicate 32 (0 : Int)))) (vs := c_ApiEvent y119) (L' := c_ApiEvent y119) (by kernel_rfl) ty39 hI (by kernel_rfl) (len_ApiEvent _ hl120) (by rw [(len_ApiEvent _ (by kernel_rfl))]; kernel_rfl) (ones_app _ _ (by kernel_rfl) (ones_cA _)) (lset_all _ _ (Eq.trans (len_ApiEvent _ hl120) (Eq.symm (len_ApiEvent _ (by kernel_rfl))))) ?_)
                      intro w hI
                      refine ⟨fun h => absurd h (by decide), ?_⟩
                      refine GmT.p' 15 12 (.int .i64 y121) (by kernel_rfl) (by kernel_rfl) ?_
                      refine GmT.done (by kernel_rfl) ?_
                      have hI := hI.mono (pick3 _ _ _ _)
                      have hI := hI.mono (pick2 _ _ _)
                      have hI := hI.mono (pick3 _ _ _ _)
                      have e := someS h3
                      subst e
                      exact Qn.thenJ fun a ha => ⟨y110, y111, y112, y113, y114, y115, y119, y121, Z122, b108, A116, cp117, b124, rfl, ha.keep [0, 1, 5, 6, 8, 9, 10, 11, 12] (by kernel_rfl), hI, hle123, hr118, hl120⟩
                    ·
                      rw [lst_set]
                      refine (Does.allocL (d := 11) (T := 39) (c_ApiEvent (ApiEvent.mk 0 0 (⟨#[]⟩ : ByteArray) 0 0 (List.replicate 32 (0 : Int)))) (by kernel_rfl) ty39 hI (by kernel_rfl) ?_)
                      intro b125 w hI
                      have hC := hI
                      have hC := hC.drop
                      have hC := hC.drop
                      refine ⟨fun _ _ => hC, ?_⟩
                      obtain ⟨⟨y127, y128, y129, y130, y131, y132, y136, y138⟩, hc126, h3⟩ := bindS h3
                      try dsimp only at h3
                      refine GmT.o (i := 6) (by kernel_rfl) (Does.call (d := some 55) (n := 20) (vs := [.agg ((([.int .i64 x35, .string x36, .string x37, .bool x38, .int .i64 x39, .slice A41 x40.length cp42] : List Value))).toArray, .agg (c_ApiOp (ApiOp.mk 1 (⟨#[]⟩ : ByteArray) (gt a0 x34) 0 0 0)).toArray, .int .i64 0]) (by kernel_rfl) en20 (c20 w0 w _ _ hI (hT.mono hle32) x35 x36 x37 x38 x39 A41 cp42 x40 hr43 (ApiOp.mk 1 (⟨#[]⟩ : ByteArray) (gt a0 x34) 0 0 0) 0 _ hc126) ?_)
                      rintro e w ⟨A133, cp134, Z139, hle140, rfl, hr135, hl137, hI⟩
                      refine ⟨_, rfl, ?_⟩
                      have hC := hI
                      have hC := hC.drop
                      have hC := hC.drop
                      have hC := hC.weaken hle140
                      refine ⟨fun _ _ => hC, ?_⟩
                      refine GmT.p' 7 48 (.tuple #[.agg ((([.int .i64 y127, .string y128, .string y129, .bool y130, .int .i64 y131, .slice A133 y132.length cp134] : List Value))).toArray, .agg (c_ApiEvent y136).toArray, .int .i64 y138]) (by kernel_rfl) (by kernel_rfl) ?_
                      refine GmT.p' 8 56 (.agg ((([.int .i64 y127, .string y128, .string y129, .bool y130, .int .i64 y131, .slice A133 y132.length cp134] : List Value))).toArray) (by kernel_rfl) (by kernel_rfl) ?_
                      refine GmT.p' 9 57 (.agg (c_ApiEvent y136).toArray) (by kernel_rfl) (by kernel_rfl) ?_
                      refine GmT.p' 10 58 (.int .i64 y138) (by kernel_rfl) (by kernel_rfl) ?_
                      have hI := hI.mono (pick2 _ _ _)
                      refine GmT.o (i := 13) (by kernel_rfl) (Does.storeLit (T := 24) (b := b108) (o := 0) (v := .agg ((([.int .i64 y127, .string y128, .string y129, .bool y130, .int .i64 y131, .slice A133 y132.length cp134] : List Value))).toArray) (l := (([.int .i64 0, .string (⟨#[]⟩ : ByteArray), .string (⟨#[]⟩ : ByteArray), .bool false, .int .i64 0, .slice none 0 0] : List Value))) (vs := (([.int .i64 y127, .string y128, .string y129, .bool y130, .int .i64 y131, .slice A133 y132.length cp134] : List Value))) (L' := (([.int .i64 y127, .string y128, .string y129, .bool y130, .int .i64 y131, .slice A133 y132.length cp134] : List Value))) (by kernel_rfl) ty24 hI (by kernel_rfl) (by kernel_rfl) (by kernel_rfl) (by kernel_rfl) (by kernel_rfl) ?_)
                      intro w hI
                      refine ⟨fun h => absurd h (by decide), ?_⟩
                      have hI := hI.mono (pick2 _ _ _)
                      refine GmT.o (i := 14) (by kernel_rfl) (Does.storeLit (T := 39) (b := b125) (o := 0) (v := .agg (c_ApiEvent y136).toArray) (l := c_ApiEvent (ApiEvent.mk 0 0 (⟨#[]⟩ : ByteArray) 0 0 (List.replicate 32 (0 : Int)))) (vs := c_ApiEvent y136) (L' := c_ApiEvent y136) (by kernel_rfl) ty39 hI (by kernel_rfl) (len_ApiEvent _ hl137) (by rw [(len_ApiEvent _ (by kernel_rfl))]; kernel_rfl) (ones_app _ _ (by kernel_rfl) (ones_cA _)) (lset_all _ _ (Eq.trans (len_ApiEvent _ hl137) (Eq.symm (len_ApiEvent _ (by kernel_rfl))))) ?_)
                      intro w hI
                      refine ⟨fun h => absurd h (by decide), ?_⟩
                      refine GmT.p' 15 12 (.int .i64 y138) (by kernel_rfl) (by kernel_rfl) ?_
                      refine GmT.done (by kernel_rfl) ?_
                      have hI := hI.mono (pick3 _ _ _ _)
                      have hI := hI.mono (pick2 _ _ _)
                      have hI := hI.mono (pick3 _ _ _ _)
                      have e := someS h3
                      subst e
                      exact Qn.thenJ fun a ha => ⟨y127, y128, y129, y130, y131, y132, y136, y138, Z139, b108, A133, cp134, b125, rfl, ha.keep [0, 1, 5, 6, 8, 9, 10, 11, 12] (by kernel_rfl), hI, hle140, hr135, hl137⟩
                  ·
                    rw [lst_set]
                    refine (Does.allocL (d := 11) (T := 39) (c_ApiEvent (ApiEvent.mk 0 0 (⟨#[]⟩ : ByteArray) 0 0 (List.replicate 32 (0 : Int)))) (by kernel_rfl) ty39 hI (by kernel_rfl) ?_)
                    intro b141 w hI
                    have hC := hI
                    have hC := hC.drop
                    refine ⟨fun _ _ => hC, ?_⟩
                    refine GmT.several [6, 11] (by kernel_rfl) rfl ?_
                    intro i hi; simp only [List.mem_cons, List.not_mem_nil, or_false] at hi; rcases hi with rfl | rfl
                    ·
                      obtain ⟨⟨y143, y144, y145, y146, y147, y148, y152, y154⟩, hc142, h3⟩ := bindS h3
                      try dsimp only at h3
                      rw [lst_set]
                      refine (Does.call (d := some 55) (n := 20) (vs := [.agg ((([.int .i64 x35, .string x36, .string x37, .bool x38, .int .i64 x39, .slice A41 x40.length cp42] : List Value))).toArray, .agg (c_ApiOp (ApiOp.mk 1 (⟨#[]⟩ : ByteArray) (gt a0 x34) 0 0 0)).toArray, .int .i64 0]) (by kernel_rfl) en20 (c20 w0 w _ _ hI (hT.mono hle32) x35 x36 x37 x38 x39 A41 cp42 x40 hr43 (ApiOp.mk 1 (⟨#[]⟩ : ByteArray) (gt a0 x34) 0 0 0) 0 _ hc142) ?_)
                      rintro e w ⟨A149, cp150, Z155, hle156, rfl, hr151, hl153, hI⟩
                      refine ⟨_, rfl, ?_⟩
                      have hC := hI
                      have hC := hC.drop
                      have hC := hC.weaken hle156
                      refine ⟨fun _ _ => hC, ?_⟩
                      refine GmT.p' 7 48 (.tuple #[.agg ((([.int .i64 y143, .string y144, .string y145, .bool y146, .int .i64 y147, .slice A149 y148.length cp150] : List Value))).toArray, .agg (c_ApiEvent y152).toArray, .int .i64 y154]) (by kernel_rfl) (by kernel_rfl) ?_
                      refine GmT.p' 8 56 (.agg ((([.int .i64 y143, .string y144, .string y145, .bool y146, .int .i64 y147, .slice A149 y148.length cp150] : List Value))).toArray) (by kernel_rfl) (by kernel_rfl) ?_
                      refine GmT.p' 9 57 (.agg (c_ApiEvent y152).toArray) (by kernel_rfl) (by kernel_rfl) ?_
                      refine GmT.p' 10 58 (.int .i64 y154) (by kernel_rfl) (by kernel_rfl) ?_
                      refine GmT.o (i := 11) (by kernel_rfl) (Does.allocL (d := 10) (T := 24) ((([.int .i64 0, .string (⟨#[]⟩ : ByteArray), .string (⟨#[]⟩ : ByteArray), .bool false, .int .i64 0, .slice none 0 0] : List Value))) (by kernel_rfl) ty24 hI (by kernel_rfl) ?_)
                      intro b157 w hI
                      have hC := hI
                      have hC := hC.drop
                      have hC := hC.drop
                      have hC := hC.weaken hle156
                      refine ⟨fun _ _ => hC, ?_⟩
                      refine GmT.o (i := 13) (by kernel_rfl) (Does.storeLit (T := 24) (b := b157) (o := 0) (v := .agg ((([.int .i64 y143, .string y144, .string y145, .bool y146, .int .i64 y147, .slice A149 y148.length cp150] : List Value))).toArray) (l := (([.int .i64 0, .string (⟨#[]⟩ : ByteArray), .string (⟨#[]⟩ : ByteArray), .bool false, .int .i64 0, .slice none 0 0] : List Value))) (vs := (([.int .i64 y143, .string y144, .string y145, .bool y146, .int .i64 y147, .slice A149 y148.length cp150] : List Value))) (L' := (([.int .i64 y143, .string y144, .string y145, .bool y146, .int .i64 y147, .slice A149 y148.length cp150] : List Value))) (by kernel_rfl) ty24 hI (by kernel_rfl) (by kernel_rfl) (by kernel_rfl) (by kernel_rfl) (by kernel_rfl) ?_)
                      intro w hI
                      refine ⟨fun h => absurd h (by decide), ?_⟩
                      have hI := hI.mono (pick2 _ _ _)
                      refine GmT.o (i := 14) (by kernel_rfl) (Does.storeLit (T := 39) (b := b141) (o := 0) (v := .agg (c_ApiEvent y152).toArray) (l := c_ApiEvent (ApiEvent.mk 0 0 (⟨#[]⟩ : ByteArray) 0 0 (List.replicate 32 (0 : Int)))) (vs := c_ApiEvent y152) (L' := c_ApiEvent y152) (by kernel_rfl) ty39 hI (by kernel_rfl) (len_ApiEvent _ hl153) (by rw [(len_ApiEvent _ (by kernel_rfl))]; kernel_rfl) (ones_app _ _ (by kernel_rfl) (ones_cA _)) (lset_all _ _ (Eq.trans (len_ApiEvent _ hl153) (Eq.symm (len_ApiEvent _ (by kernel_rfl))))) ?_)
                      intro w hI
                      refine ⟨fun h => absurd h (by decide), ?_⟩
                      refine GmT.p' 15 12 (.int .i64 y154) (by kernel_rfl) (by kernel_rfl) ?_
                      refine GmT.done (by kernel_rfl) ?_
                      have hI := hI.mono (pick3 _ _ _ _)
                      have hI := hI.mono (pick2 _ _ _)
                      have hI := hI.mono (pick3 _ _ _ _)
                      have e := someS h3
                      subst e
                      exact Qn.thenJ fun a ha => ⟨y143, y144, y145, y146, y147, y148, y152, y154, Z155, b157, A149, cp150, b141, rfl, ha.keep [0, 1, 5, 6, 8, 9, 10, 11, 12] (by kernel_rfl), hI, hle156, hr151, hl153⟩
                    ·
                      rw [lst_set]
                      refine (Does.allocL (d := 10) (T := 24) ((([.int .i64 0, .string (⟨#[]⟩ : ByteArray), .string (⟨#[]⟩ : ByteArray), .bool false, .int .i64 0, .slice none 0 0] : List Value))) (by kernel_rfl) ty24 hI (by kernel_rfl) ?_)
                      intro b158 w hI
                      have hC := hI
                      have hC := hC.drop
                      have hC := hC.drop
                      refine ⟨fun _ _ => hC, ?_⟩
                      obtain ⟨⟨y160, y161, y162, y163, y164, y165, y169, y171⟩, hc159, h3⟩ := bindS h3
                      try dsimp only at h3
                      refine GmT.o (i := 6) (by kernel_rfl) (Does.call (d := some 55) (n := 20) (vs := [.agg ((([.int .i64 x35, .string x36, .string x37, .bool x38, .int .i64 x39, .slice A41 x40.length cp42] : List Value))).toArray, .agg (c_ApiOp (ApiOp.mk 1 (⟨#[]⟩ : ByteArray) (gt a0 x34) 0 0 0)).toArray, .int .i64 0]) (by kernel_rfl) en20 (c20 w0 w _ _ hI (hT.mono hle32) x35 x36 x37 x38 x39 A41 cp42 x40 hr43 (ApiOp.mk 1 (⟨#[]⟩ : ByteArray) (gt a0 x34) 0 0 0) 0 _ hc159) ?_)
                      rintro e w ⟨A166, cp167, Z172, hle173, rfl, hr168, hl170, hI⟩
                      refine ⟨_, rfl, ?_⟩
                      have hC := hI
                      have hC := hC.drop
                      have hC := hC.drop
                      have hC := hC.weaken hle173
                      refine ⟨fun _ _ => hC, ?_⟩
                      refine GmT.p' 7 48 (.tuple #[.agg ((([.int .i64 y160, .string y161, .string y162, .bool y163, .int .i64 y164, .slice A166 y165.length cp167] : List Value))).toArray, .agg (c_ApiEvent y169).toArray, .int .i64 y171]) (by kernel_rfl) (by kernel_rfl) ?_
                      refine GmT.p' 8 56 (.agg ((([.int .i64 y160, .string y161, .string y162, .bool y163, .int .i64 y164, .slice A166 y165.length cp167] : List Value))).toArray) (by kernel_rfl) (by kernel_rfl) ?_
                      refine GmT.p' 9 57 (.agg (c_ApiEvent y169).toArray) (by kernel_rfl) (by kernel_rfl) ?_
                      refine GmT.p' 10 58 (.int .i64 y171) (by kernel_rfl) (by kernel_rfl) ?_
                      refine GmT.o (i := 13) (by kernel_rfl) (Does.storeLit (T := 24) (b := b158) (o := 0) (v := .agg ((([.int .i64 y160, .string y161, .string y162, .bool y163, .int .i64 y164, .slice A166 y165.length cp167] : List Value))).toArray) (l := (([.int .i64 0, .string (⟨#[]⟩ : ByteArray), .string (⟨#[]⟩ : ByteArray), .bool false, .int .i64 0, .slice none 0 0] : List Value))) (vs := (([.int .i64 y160, .string y161, .string y162, .bool y163, .int .i64 y164, .slice A166 y165.length cp167] : List Value))) (L' := (([.int .i64 y160, .string y161, .string y162, .bool y163, .int .i64 y164, .slice A166 y165.length cp167] : List Value))) (by kernel_rfl) ty24 hI (by kernel_rfl) (by kernel_rfl) (by kernel_rfl) (by kernel_rfl) (by kernel_rfl) ?_)
                      intro w hI
                      refine ⟨fun h => absurd h (by decide), ?_⟩
                      have hI := hI.mono (pick2 _ _ _)
                      refine GmT.o (i := 14) (by kernel_rfl) (Does.storeLit (T := 39) (b := b141) (o := 0) (v := .agg (c_ApiEvent y169).toArray) (l := c_ApiEvent (ApiEvent.mk 0 0 (⟨#[]⟩ : ByteArray) 0 0 (List.replicate 32 (0 : Int)))) (vs := c_ApiEvent y169) (L' := c_ApiEvent y169) (by kernel_rfl) ty39 hI (by kernel_rfl) (len_ApiEvent _ hl170) (by rw [(len_ApiEvent _ (by kernel_rfl))]; kernel_rfl) (ones_app _ _ (by kernel_rfl) (ones_cA _)) (lset_all _ _ (Eq.trans (len_ApiEvent _ hl170) (Eq.symm (len_ApiEvent _ (by kernel_rfl))))) ?_)
                      intro w hI
                      refine ⟨fun h => absurd h (by decide), ?_⟩
                      refine GmT.p' 15 12 (.int .i64 y171) (by kernel_rfl) (by kernel_rfl) ?_
                      refine GmT.done (by kernel_rfl) ?_
                      have hI := hI.mono (pick3 _ _ _ _)
                      have hI := hI.mono (pick2 _ _ _)
                      have hI := hI.mono (pick3 _ _ _ _)
                      have e := someS h3
                      subst e
                      exact Qn.thenJ fun a ha => ⟨y160, y161, y162, y163, y164, y165, y169, y171, Z172, b158, A166, cp167, b141, rfl, ha.keep [0, 1, 5, 6, 8, 9, 10, 11, 12] (by kernel_rfl), hI, hle173, hr168, hl170⟩
                ·
                  rintro a w ⟨x70, x71, x72, x73, x74, x75, x80, x82, Z67, b69, A76, cp77, b79, rfl, ha, hI, hle68, hr78, hl81⟩
                  try dsimp only at h2
                  refine CodT.of ?_ ha
                  refine CodT.seq ?_
                  obtain ⟨r3, h3, h2⟩ := bindS h2
                  refine CodT.meet (fun a w => ∃ (x174 : Bool), x174 = r3 ∧ Fr 130 [(0, .slice A_a0 a0.length c_a0), (1, .int .i64 a1), (5, .bool y2), (6, .pointer (some ⟨b18, 0, none⟩)), (8, .string x33), (9, .int .i64 x34), (10, .pointer (some ⟨b69, 0, none⟩)), (12, .int .i64 x82), (91, .bool x174)] a ∧ Inv w0 Z67 w (star (pt b69 (.cells ((([.int .i64 x70, .string x71, .string x72, .bool x73, .int .i64 x74, .slice A76 x75.length cp77] : List Value))).toArray 24 (0, 0))) (star (pt b18 (.cells ((([.int .i64 x35, .string x36, .string x37, .bool x38, .int .i64 x39, .slice A41 x40.length cp42] : List Value))).toArray 24 (0, 0))) A))) ?_ ?_
                  ·
                    refine CodT.drawI (n := 33) [] (by kernel_rfl) (by kernel_rfl) hI ?_
                    intro w hI
                    refine GmT.p' 0 59 (.int .i64 x82) (by kernel_rfl) (by kernel_rfl) ?_
                    refine GmT.p' 1 60 (.bool (x82 == 0)) (by kernel_rfl) (by kernel_rfl) ?_
                    refine GmT.p' 2 61 (.slice A_a0 a0.length c_a0) (by kernel_rfl) (by kernel_rfl) ?_
                    refine GmT.p' 3 62 (.int .i64 x34) (by kernel_rfl) (by kernel_rfl) ?_
                    obtain ⟨hg175, h3⟩ := guardS h3
                    obtain ⟨g176, o180, hA177, hr178, hl179⟩ := RdS.get (hr_a0.mono (Hp.le_trans hle32 hle68)) hg175.1 hg175.2
                    refine GmT.r (i := 4) 2 (by kernel_rfl) (by kernel_rfl) (Yl.indexSlice (d := 63) (T := 22) (cc := c_a0) (k := .i64) (j := x34) (g := g176) (o := o180) (by kernel_rfl) Go.Proofs.Tryd.underlying22 ty9 hA177 hg175.1 hg175.2) hI ?_
                    refine GmT.r (i := 5) 2 (by kernel_rfl) (by kernel_rfl) (Yl.load (d := 64) (T := 9) (v := .string (gt a0 x34)) (by kernel_rfl) (ldR ty9 (v := .string (gt a0 x34)) 0 (fun w hC => hr178 w0 w _ hC) (by kernel_rfl))) hI ?_
                    refine GmT.p' 6 65 (.bool (!(seq (gt a0 x34) (⟨#[]⟩ : ByteArray)))) (by kernel_rfl) (by kernel_rfl) ?_
                    refine GmT.p' 7 66 (.bool (!(seq (gt a0 x34) (⟨#[]⟩ : ByteArray)))) (by kernel_rfl) (by kernel_rfl) ?_
                    by_cases hb181 : (!(seq (gt a0 x34) (⟨#[]⟩ : ByteArray))) = true
                    · rw [if_pos hb181] at h3
                      refine GmT.keep [0, 1, 5, 6, 8, 9, 10, 11, 12, 60, 66] (S' := [(0, .slice A_a0 a0.length c_a0), (1, .int .i64 a1), (5, .bool y2), (6, .pointer (some ⟨b18, 0, none⟩)), (8, .string x33), (9, .int .i64 x34), (10, .pointer (some ⟨b69, 0, none⟩)), (11, .pointer (some ⟨b79, 0, none⟩)), (12, .int .i64 x82), (60, .bool (x82 == 0)), (66, .bool true)]) (by (try simp only [hb181]); kernel_rfl) ?_
                      refine GmT.p' 8 67 (.string x33) (by kernel_rfl) (by kernel_rfl) ?_
                      refine GmT.p' 9 68 (.int .i64 (x33.size : Int)) (by kernel_rfl) (by kernel_rfl) ?_
                      refine GmT.p' 10 69 (.slice A_a0 a0.length c_a0) (by kernel_rfl) (by kernel_rfl) ?_
                      refine GmT.p' 11 70 (.int .i64 x34) (by kernel_rfl) (by kernel_rfl) ?_
                      obtain ⟨hg182, h3⟩ := guardS h3
                      obtain ⟨g183, o187, hA184, hr185, hl186⟩ := RdS.get (hr_a0.mono (Hp.le_trans hle32 hle68)) hg182.1 hg182.2
                      refine GmT.r (i := 12) 2 (by kernel_rfl) (by kernel_rfl) (Yl.indexSlice (d := 71) (T := 22) (cc := c_a0) (k := .i64) (j := x34) (g := g183) (o := o187) (by kernel_rfl) Go.Proofs.Tryd.underlying22 ty9 hA184 hg182.1 hg182.2) hI ?_
                      refine GmT.r (i := 13) 2 (by kernel_rfl) (by kernel_rfl) (Yl.load (d := 72) (T := 9) (v := .string (gt a0 x34)) (by kernel_rfl) (ldR ty9 (v := .string (gt a0 x34)) 0 (fun w hC => hr185 w0 w _ hC) (by kernel_rfl))) hI ?_
                      refine GmT.p' 14 73 (.int .i64 ((gt a0 x34).size : Int)) (by kernel_rfl) (by kernel_rfl) ?_
                      refine GmT.p' 15 74 (.int .i64 (wi64 ((x33.size : Int) + ((gt a0 x34).size : Int)))) (by kernel_rfl) (by kernel_rfl) ?_
                      refine GmT.p' 16 75 (.bool (decide ((wi64 ((x33.size : Int) + ((gt a0 x34).size : Int))) ≤ 600))) (by kernel_rfl) (by kernel_rfl) ?_
                      refine GmT.p' 17 76 (.bool (decide ((wi64 ((x33.size : Int) + ((gt a0 x34).size : Int))) ≤ 600))) (by kernel_rfl) (by kernel_rfl) ?_
                      refine GmT.p' 18 77 (.bool ((x82 == 0) != (decide ((wi64 ((x33.size : Int) + ((gt a0 x34).size : Int))) ≤ 600)))) (by kernel_rfl) (by kernel_rfl) ?_
                      refine GmT.p' 19 78 (.bool ((x82 == 0) != (decide ((wi64 ((x33.size : Int) + ((gt a0 x34).size : Int))) ≤ 600)))) (by kernel_rfl) (by kernel_rfl) ?_
                      by_cases hb188 : ((x82 == 0) != (decide ((wi64 ((x33.size : Int) + ((gt a0 x34).size : Int))) ≤ 600))) = true
                      · rw [if_pos hb188] at h3
                        refine GmT.keep [0, 1, 5, 6, 8, 9, 10, 11, 12, 78] (S' := [(0, .slice A_a0 a0.length c_a0), (1, .int .i64 a1), (5, .bool y2), (6, .pointer (some ⟨b18, 0, none⟩)), (8, .string x33), (9, .int .i64 x34), (10, .pointer (some ⟨b69, 0, none⟩)), (11, .pointer (some ⟨b79, 0, none⟩)), (12, .int .i64 x82), (78, .bool true)]) (by (try simp only [hb188]); kernel_rfl) ?_
                        refine GmT.p' 20 79 (undef) (by kernel_rfl) (by kernel_rfl) ?_
                        refine GmT.p' 21 80 (undef) (by kernel_rfl) (by kernel_rfl) ?_
                        refine GmT.p' 22 81 (undef) (by kernel_rfl) (by kernel_rfl) ?_
                        refine GmT.p' 23 82 (undef) (by kernel_rfl) (by kernel_rfl) ?_
                        refine GmT.p' 24 83 (undef) (by kernel_rfl) (by kernel_rfl) ?_
                        refine GmT.p' 25 84 (undef) (by kernel_rfl) (by kernel_rfl) ?_
                        refine GmT.p' 26 85 (undef) (by kernel_rfl) (by kernel_rfl) ?_
                        refine GmT.p' 27 86 (undef) (by kernel_rfl) (by kernel_rfl) ?_
                        refine GmT.p' 28 87 (undef) (by kernel_rfl) (by kernel_rfl) ?_
                        refine GmT.p' 29 88 (undef) (by kernel_rfl) (by kernel_rfl) ?_
                        refine GmT.p' 30 89 (undef) (by kernel_rfl) (by kernel_rfl) ?_
                        refine GmT.p' 31 90 (undef) (by kernel_rfl) (by kernel_rfl) ?_
                        refine GmT.p' 32 91 (.bool true) (by kernel_rfl) (by kernel_rfl) ?_
                        refine GmT.done (by kernel_rfl) ?_
                        have hI := hI.mono (pick2 _ _ _)
                        have hI := hI.drop
                        have e := someS h3
                        subst e
                        exact Qn.thenJ fun a ha => ⟨true, rfl, ha.keep [0, 1, 5, 6, 8, 9, 10, 12, 91] (by kernel_rfl), hI⟩
                      · rw [if_neg hb188] at h3
                        have hb188 : ((x82 == 0) != (decide ((wi64 ((x33.size : Int) + ((gt a0 x34).size : Int))) ≤ 600))) = false := by simpa using hb188
                        refine GmT.keep [0, 1, 5, 6, 8, 9, 10, 11, 12, 78] (S' := [(0, .slice A_a0 a0.length c_a0), (1, .int .i64 a1), (5, .bool y2), (6, .pointer (some ⟨b18, 0, none⟩)), (8, .string x33), (9, .int .i64 x34), (10, .pointer (some ⟨b69, 0, none⟩)), (11, .pointer (some ⟨b79, 0, none⟩)), (12, .int .i64 x82), (78, .bool false)]) (by (try simp only [hb188]); kernel_rfl) ?_
                        refine GmT.p' 20 79 (.int .i64 x82) (by kernel_rfl) (by kernel_rfl) ?_
                        refine GmT.p' 21 80 (.bool (x82 == 0)) (by kernel_rfl) (by kernel_rfl) ?_
                        refine GmT.p' 22 81 (.bool (x82 == 0)) (by kernel_rfl) (by kernel_rfl) ?_
                        by_cases hb189 : (x82 == 0) = true
                        · rw [if_pos hb189] at h3
                          refine GmT.keep [0, 1, 5, 6, 8, 9, 10, 11, 12, 78, 81] (S' := [(0, .slice A_a0 a0.length c_a0), (1, .int .i64 a1), (5, .bool y2), (6, .pointer (some ⟨b18, 0, none⟩)), (8, .string x33), (9, .int .i64 x34), (10, .pointer (some ⟨b69, 0, none⟩)), (11, .pointer (some ⟨b79, 0, none⟩)), (12, .int .i64 x82), (78, .bool false), (81, .bool true)]) (by (try simp only [hb189]); kernel_rfl) ?_
                          refine GmT.p' 23 82 (.pointer (some ⟨b79, 4, none⟩)) (by kernel_rfl) (by kernel_rfl) ?_
                          refine GmT.p' 25 84 (.slice A_a0 a0.length c_a0) (by kernel_rfl) (by kernel_rfl) ?_
                          refine GmT.p' 26 85 (.int .i64 x34) (by kernel_rfl) (by kernel_rfl) ?_
                          refine GmT.r (i := 24) 2 (by kernel_rfl) (by kernel_rfl) (Yl.load (d := 83) (T := 3) (v := .int .i64 x80.Len) (by kernel_rfl) (ldB ty3 (l := c_ApiEvent x80) (o := 4) (v := .int .i64 x80.Len) (pick2 _ _ _) (by kernel_rfl))) hI ?_
                          obtain ⟨hg190, h3⟩ := guardS h3
                          obtain ⟨g191, o195, hA192, hr193, hl194⟩ := RdS.get (hr_a0.mono (Hp.le_trans hle32 hle68)) hg190.1 hg190.2
                          refine GmT.r (i := 27) 2 (by kernel_rfl) (by kernel_rfl) (Yl.indexSlice (d := 86) (T := 22) (cc := c_a0) (k := .i64) (j := x34) (g := g191) (o := o195) (by kernel_rfl) Go.Proofs.Tryd.underlying22 ty9 hA192 hg190.1 hg190.2) hI ?_
                          refine GmT.r (i := 28) 2 (by kernel_rfl) (by kernel_rfl) (Yl.load (d := 87) (T := 9) (v := .string (gt a0 x34)) (by kernel_rfl) (ldR ty9 (v := .string (gt a0 x34)) 0 (fun w hC => hr193 w0 w _ hC) (by kernel_rfl))) hI ?_
                          refine GmT.p' 29 88 (.int .i64 ((gt a0 x34).size : Int)) (by kernel_rfl) (by kernel_rfl) ?_
                          refine GmT.p' 30 89 (.bool (x80.Len != ((gt a0 x34).size : Int))) (by kernel_rfl) (by kernel_rfl) ?_
                          refine GmT.p' 31 90 (.bool (x80.Len != ((gt a0 x34).size : Int))) (by kernel_rfl) (by kernel_rfl) ?_
                          refine GmT.p' 32 91 (.bool (x80.Len != ((gt a0 x34).size : Int))) (by kernel_rfl) (by kernel_rfl) ?_
                          refine GmT.done (by kernel_rfl) ?_
                          have hI := hI.mono (pick2 _ _ _)
                          have hI := hI.drop
                          have e := someS h3
                          subst e
                          exact Qn.thenJ fun a ha => ⟨x80.Len != ((gt a0 x34).size : Int), rfl, ha.keep [0, 1, 5, 6, 8, 9, 10, 12, 91] (by kernel_rfl), hI⟩
                        · rw [if_neg hb189] at h3
                          have hb189 : (x82 == 0) = false := by simpa using hb189
                          refine GmT.keep [0, 1, 5, 6, 8, 9, 10, 11, 12, 78, 81] (S' := [(0, .slice A_a0 a0.length c_a0), (1, .int .i64 a1), (5, .bool y2), (6, .pointer (some ⟨b18, 0, none⟩)), (8, .string x33), (9, .int .i64 x34), (10, .pointer (some ⟨b69, 0, none⟩)), (11, .pointer (some ⟨b79, 0, none⟩)), (12, .int .i64 x82), (78, .bool false), (81, .bool false)]) (by (try simp only [hb189]); kernel_rfl) ?_
                          refine GmT.p' 23 82 (undef) (by kernel_rfl) (by kernel_rfl) ?_
                          refine GmT.p' 24 83 (undef) (by kernel_rfl) (by kernel_rfl) ?_
                          refine GmT.p' 25 84 (undef) (by kernel_rfl) (by kernel_rfl) ?_
                          refine GmT.p' 26 85 (undef) (by kernel_rfl) (by kernel_rfl) ?_
                          refine GmT.p' 27 86 (undef) (by kernel_rfl) (by kernel_rfl) ?_
                          refine GmT.p' 28 87 (undef) (by kernel_rfl) (by kernel_rfl) ?_
                          refine GmT.p' 29 88 (undef) (by kernel_rfl) (by kernel_rfl) ?_
                          refine GmT.p' 30 89 (undef) (by kernel_rfl) (by kernel_rfl) ?_
                          refine GmT.p' 31 90 (.bool false) (by kernel_rfl) (by kernel_rfl) ?_
                          refine GmT.p' 32 91 (.bool false) (by kernel_rfl) (by kernel_rfl) ?_
                          refine GmT.done (by kernel_rfl) ?_
                          have hI := hI.mono (pick2 _ _ _)
                          have hI := hI.drop
                          have e := someS h3
                          subst e
                          exact Qn.thenJ fun a ha => ⟨false, rfl, ha.keep [0, 1, 5, 6, 8, 9, 10, 12, 91] (by kernel_rfl), hI⟩
                    · rw [if_neg hb181] at h3
                      have hb181 : (!(seq (gt a0 x34) (⟨#[]⟩ : ByteArray))) = false := by simpa using hb181
                      refine GmT.keep [0, 1, 5, 6, 8, 9, 10, 11, 12, 60, 66] (S' := [(0, .slice A_a0 a0.length c_a0), (1, .int .i64 a1), (5, .bool y2), (6, .pointer (some ⟨b18, 0, none⟩)), (8, .string x33), (9, .int .i64 x34), (10, .pointer (some ⟨b69, 0, none⟩)), (11, .pointer (some ⟨b79, 0, none⟩)), (12, .int .i64 x82), (60, .bool (x82 == 0)), (66, .bool false)]) (by (try simp only [hb181]); kernel_rfl) ?_
                      refine GmT.p' 8 67 (undef) (by kernel_rfl) (by kernel_rfl) ?_
                      refine GmT.p' 9 68 (undef) (by kernel_rfl) (by kernel_rfl) ?_
                      refine GmT.p' 10 69 (undef) (by kernel_rfl) (by kernel_rfl) ?_
                      refine GmT.p' 11 70 (undef) (by kernel_rfl) (by kernel_rfl) ?_
                      refine GmT.p' 12 71 (undef) (by kernel_rfl) (by kernel_rfl) ?_
                      refine GmT.p' 13 72 (undef) (by kernel_rfl) (by kernel_rfl) ?_
                      refine GmT.p' 14 73 (undef) (by kernel_rfl) (by kernel_rfl) ?_
                      refine GmT.p' 15 74 (undef) (by kernel_rfl) (by kernel_rfl) ?_
                      refine GmT.p' 16 75 (undef) (by kernel_rfl) (by kernel_rfl) ?_
                      refine GmT.p' 17 76 (.bool false) (by kernel_rfl) (by kernel_rfl) ?_
                      refine GmT.p' 18 77 (.bool ((x82 == 0) != false)) (by kernel_rfl) (by kernel_rfl) ?_
                      refine GmT.p' 19 78 (.bool ((x82 == 0) != false)) (by kernel_rfl) (by kernel_rfl) ?_
                      by_cases hb196 : ((x82 == 0) != false) = true
                      · rw [if_pos hb196] at h3
                        refine GmT.keep [0, 1, 5, 6, 8, 9, 10, 11, 12, 78] (S' := [(0, .slice A_a0 a0.length c_a0), (1, .int .i64 a1), (5, .bool y2), (6, .pointer (some ⟨b18, 0, none⟩)), (8, .string x33), (9, .int .i64 x34), (10, .pointer (some ⟨b69, 0, none⟩)), (11, .pointer (some ⟨b79, 0, none⟩)), (12, .int .i64 x82), (78, .bool true)]) (by (try simp only [hb196]); kernel_rfl) ?_
                        refine GmT.p' 20 79 (undef) (by kernel_rfl) (by kernel_rfl) ?_
                        refine GmT.p' 21 80 (undef) (by kernel_rfl) (by kernel_rfl) ?_
                        refine GmT.p' 22 81 (undef) (by kernel_rfl) (by kernel_rfl) ?_
                        refine GmT.p' 23 82 (undef) (by kernel_rfl) (by kernel_rfl) ?_
                        refine GmT.p' 24 83 (undef) (by kernel_rfl) (by kernel_rfl) ?_
                        refine GmT.p' 25 84 (undef) (by kernel_rfl) (by kernel_rfl) ?_
                        refine GmT.p' 26 85 (undef) (by kernel_rfl) (by kernel_rfl) ?_
                        refine GmT.p' 27 86 (undef) (by kernel_rfl) (by kernel_rfl) ?_
                        refine GmT.p' 28 87 (undef) (by kernel_rfl) (by kernel_rfl) ?_
                        refine GmT.p' 29 88 (undef) (by kernel_rfl) (by kernel_rfl) ?_
                        refine GmT.p' 30 89 (undef) (by kernel_rfl) (by kernel_rfl) ?_
                        refine GmT.p' 31 90 (undef) (by kernel_rfl) (by kernel_rfl) ?_
                        refine GmT.p' 32 91 (.bool true) (by kernel_rfl) (by kernel_rfl) ?_
                        refine GmT.done (by kernel_rfl) ?_
                        have hI := hI.mono (pick2 _ _ _)
                        have hI := hI.drop
                        have e := someS h3
                        subst e
                        exact Qn.thenJ fun a ha => ⟨true, rfl, ha.keep [0, 1, 5, 6, 8, 9, 10, 12, 91] (by kernel_rfl), hI⟩
                      · rw [if_neg hb196] at h3
                        have hb196 : ((x82 == 0) != false) = false := by simpa using hb196
                        refine GmT.keep [0, 1, 5, 6, 8, 9, 10, 11, 12, 78] (S' := [(0, .slice A_a0 a0.length c_a0), (1, .int .i64 a1), (5, .bool y2), (6, .pointer (some ⟨b18, 0, none⟩)), (8, .string x33), (9, .int .i64 x34), (10, .pointer (some ⟨b69, 0, none⟩)), (11, .pointer (some ⟨b79, 0, none⟩)), (12, .int .i64 x82), (78, .bool false)]) (by (try simp only [hb196]); kernel_rfl) ?_
                        refine GmT.p' 20 79 (.int .i64 x82) (by kernel_rfl) (by kernel_rfl) ?_
                        refine GmT.p' 21 80 (.bool (x82 == 0)) (by kernel_rfl) (by kernel_rfl) ?_
                        refine GmT.p' 22 81 (.bool (x82 == 0)) (by kernel_rfl) (by kernel_rfl) ?_
                        by_cases hb197 : (x82 == 0) = true
                        · rw [if_pos hb197] at h3
                          refine GmT.keep [0, 1, 5, 6, 8, 9, 10, 11, 12, 78, 81] (S' := [(0, .slice A_a0 a0.length c_a0), (1, .int .i64 a1), (5, .bool y2), (6, .pointer (some ⟨b18, 0, none⟩)), (8, .string x33), (9, .int .i64 x34), (10, .pointer (some ⟨b69, 0, none⟩)), (11, .pointer (some ⟨b79, 0, none⟩)), (12, .int .i64 x82), (78, .bool false), (81, .bool true)]) (by (try simp only [hb197]); kernel_rfl) ?_
                          refine GmT.p' 23 82 (.pointer (some ⟨b79, 4, none⟩)) (by kernel_rfl) (by kernel_rfl) ?_
                          refine GmT.p' 25 84 (.slice A_a0 a0.length c_a0) (by kernel_rfl) (by kernel_rfl) ?_
                          refine GmT.p' 26 85 (.int .i64 x34) (by kernel_rfl) (by kernel_rfl) ?_
                          refine GmT.r (i := 24) 2 (by kernel_rfl) (by kernel_rfl) (Yl.load (d := 83) (T := 3) (v := .int .i64 x80.Len) (by kernel_rfl) (ldB ty3 (l := c_ApiEvent x80) (o := 4) (v := .int .i64 x80.Len) (pick2 _ _ _) (by kernel_rfl))) hI ?_
                          obtain ⟨hg198, h3⟩ := guardS h3
                          obtain ⟨g199, o203, hA200, hr201, hl202⟩ := RdS.get (hr_a0.mono (Hp.le_trans hle32 hle68)) hg198.1 hg198.2
                          refine GmT.r (i := 27) 2 (by kernel_rfl) (by kernel_rfl) (Yl.indexSlice (d := 86) (T := 22) (cc := c_a0) (k := .i64) (j := x34) (g := g199) (o := o203) (by kernel_rfl) Go.Proofs.Tryd.underlying22 ty9 hA200 hg198.1 hg198.2) hI ?_
                          refine GmT.r (i := 28) 2 (by kernel_rfl) (by kernel_rfl) (Yl.load (d := 87) (T := 9) (v := .string (gt a0 x34)) (by kernel_rfl) (ldR ty9 (v := .string (gt a0 x34)) 0 (fun w hC => hr201 w0 w _ hC) (by kernel_rfl))) hI ?_
                          refine GmT.p' 29 88 (.int .i64 ((gt a0 x34).size : Int)) (by kernel_rfl) (by kernel_rfl) ?_
                          refine GmT.p' 30 89 (.bool (x80.Len != ((gt a0 x34).size : Int))) (by kernel_rfl) (by kernel_rfl) ?_
                          refine GmT.p' 31 90 (.bool (x80.Len != ((gt a0 x34).size : Int))) (by kernel_rfl) (by kernel_rfl) ?_
                          refine GmT.p' 32 91 (.bool (x80.Len != ((gt a0 x34).size : Int))) (by kernel_rfl) (by kernel_rfl) ?_
                          refine GmT.done (by kernel_rfl) ?_
                          have hI := hI.mono (pick2 _ _ _)
                          have hI := hI.drop
                          have e := someS h3
                          subst e
                          exact Qn.thenJ fun a ha => ⟨x80.Len != ((gt a0 x34).size : Int), rfl, ha.keep [0, 1, 5, 6, 8, 9, 10, 12, 91] (by kernel_rfl), hI⟩
                        · rw [if_neg hb197] at h3
                          have hb197 : (x82 == 0) = false := by simpa using hb197
                          refine GmT.keep [0, 1, 5, 6, 8, 9, 10, 11, 12, 78, 81] (S' := [(0, .slice A_a0 a0.length c_a0), (1, .int .i64 a1), (5, .bool y2), (6, .pointer (some ⟨b18, 0, none⟩)), (8, .string x33), (9, .int .i64 x34), (10, .pointer (some ⟨b69, 0, none⟩)), (11, .pointer (some ⟨b79, 0, none⟩)), (12, .int .i64 x82), (78, .bool false), (81, .bool false)]) (by (try simp only [hb197]); kernel_rfl) ?_
                          refine GmT.p' 23 82 (undef) (by kernel_rfl) (by kernel_rfl) ?_
                          refine GmT.p' 24 83 (undef) (by kernel_rfl) (by kernel_rfl) ?_
                          refine GmT.p' 25 84 (undef) (by kernel_rfl) (by kernel_rfl) ?_
                          refine GmT.p' 26 85 (undef) (by kernel_rfl) (by kernel_rfl) ?_
                          refine GmT.p' 27 86 (undef) (by kernel_rfl) (by kernel_rfl) ?_
                          refine GmT.p' 28 87 (undef) (by kernel_rfl) (by kernel_rfl) ?_
                          refine GmT.p' 29 88 (undef) (by kernel_rfl) (by kernel_rfl) ?_
                          refine GmT.p' 30 89 (undef) (by kernel_rfl) (by kernel_rfl) ?_
                          refine GmT.p' 31 90 (.bool false) (by kernel_rfl) (by kernel_rfl) ?_
                          refine GmT.p' 32 91 (.bool false) (by kernel_rfl) (by kernel_rfl) ?_
                          refine GmT.done (by kernel_rfl) ?_
                          have hI := hI.mono (pick2 _ _ _)
                          have hI := hI.drop
                          have e := someS h3
                          subst e
                          exact Qn.thenJ fun a ha => ⟨false, rfl, ha.keep [0, 1, 5, 6, 8, 9, 10, 12, 91] (by kernel_rfl), hI⟩
                  ·
                    rintro a w ⟨x174, rfl, ha, hI⟩
                    try dsimp only at h2
                    refine CodT.of ?_ ha
                    by_cases hb204 : x174 = true
                    · rw [if_pos hb204] at h2
                      refine CodT.yes' (b := x174) (by kernel_rfl) hb204 ?_
                      refine CodT.seq ?_
                      refine CodT.regionL [0] (by kernel_rfl) ?_
                      refine OpsT.pures (r := []) [0] [4] (S' := [(4, .bool false)]) (by kernel_rfl) ?_
                      refine OpsT.done ?_
                      refine Qn.then ?_
                      refine CodT.ret ?_
                      refine Qn.ret_then ?_
                      refine Qn.block_ret ?_
                      refine Qn.ret_then ?_
                      refine Qn.ret_then ?_
                      refine Qn.block_ret ?_
                      refine Qn.ret_then ?_
                      refine Qn.ret_then ?_
                      have hI := hI.drop
                      have hI := hI.drop
                      have e := someS h2
                      subst e
                      try dsimp only at h1
                      have e := someS h1
                      subst e
                      try dsimp only at h0
                      have e := someS h0
                      subst e
                      refine Qn.keep [4] (S' := [(4, .bool false)]) (by kernel_rfl) ?_
                      exact post_ret (v := .bool false) (fun a ha => RunRes.run (vs := [.bool false]) (.tmp (t := 4) (by kernel_rfl) .nil) ha (by kernel_rfl)) ⟨rfl, hI.weaken (Hp.le_trans hle32 hle68)⟩
                    · rw [if_neg hb204] at h2
                      refine CodT.no' (b := x174) (by kernel_rfl) (by simpa using hb204) ?_
                      refine CodT.skip ?_
                      refine Qn.then ?_
                      refine CodT.seq ?_
                      refine CodT.regionL [0, 1] (by kernel_rfl) ?_
                      refine OpsT.pures (r := []) [0, 1] [0, 1, 5, 6, 8, 9, 10, 93] (S' := [(0, .slice A_a0 a0.length c_a0), (1, .int .i64 a1), (5, .bool y2), (6, .pointer (some ⟨b18, 0, none⟩)), (8, .string x33), (9, .int .i64 x34), (10, .pointer (some ⟨b69, 0, none⟩)), (93, .bool (x82 == 0))]) (by kernel_rfl) ?_
                      refine OpsT.done ?_
                      refine Qn.then ?_
                      by_cases hb205 : (x82 == 0) = true
                      · rw [if_pos hb205] at h2
                        refine CodT.yes' (b := x82 == 0) (by kernel_rfl) hb205 ?_
                        refine CodT.seq ?_
                        refine CodT.regionL [0, 1, 2, 3, 4, 5, 6] (by kernel_rfl) ?_
                        refine OpsT.pures (r := [3, 4, 5, 6]) [0, 1, 2] [0, 1, 5, 6, 9, 10, 94, 95, 96] (S' := [(0, .slice A_a0 a0.length c_a0), (1, .int .i64 a1), (5, .bool y2), (6, .pointer (some ⟨b18, 0, none⟩)), (9, .int .i64 x34), (10, .pointer (some ⟨b69, 0, none⟩)), (94, .string x33), (95, .slice A_a0 a0.length c_a0), (96, .int .i64 x34)]) (by kernel_rfl) ?_
                        obtain ⟨hg206, h2⟩ := guardS h2
                        obtain ⟨g207, o211, hA208, hr209, hl210⟩ := RdS.get (hr_a0.mono (Hp.le_trans hle32 hle68)) hg206.1 hg206.2
                        refine OpsT.cons (Does.yi (Yl.indexSlice (d := 97) (T := 22) (cc := c_a0) (k := .i64) (j := x34) (g := g207) (o := o211) (by kernel_rfl) Go.Proofs.Tryd.underlying22 ty9 hA208 hg206.1 hg206.2) hI ?_)
                        refine OpsT.cons (Does.yi (Yl.load (d := 98) (T := 9) (v := .string (gt a0 x34)) (by kernel_rfl) (ldR ty9 (v := .string (gt a0 x34)) 0 (fun w hC => hr209 w0 w _ hC) (by kernel_rfl))) hI ?_)
                        obtain ⟨hg212, h2⟩ := guardS h2
                        refine OpsT.cons (Does.yi (Yl.cat (d := 99) (T := 9) (x := x33) (y := gt a0 x34) (by kernel_rfl) hg212) hI ?_)
                        refine OpsT.pures (r := []) [6] [0, 1, 5, 6, 8, 9, 10] (S' := [(0, .slice A_a0 a0.length c_a0), (1, .int .i64 a1), (5, .bool y2), (6, .pointer (some ⟨b18, 0, none⟩)), (8, .string (x33 ++ (gt a0 x34))), (9, .int .i64 x34), (10, .pointer (some ⟨b69, 0, none⟩))]) (by kernel_rfl) ?_
                        refine OpsT.done ?_
                        refine Qn.then ?_
                        refine CodT.regionL [0, 1] (by kernel_rfl) ?_
                        refine OpsT.cons (Does.yi (Yl.load (d := 100) (T := 24) (v := .agg ((([.int .i64 x70, .string x71, .string x72, .bool x73, .int .i64 x74, .slice A76 x75.length cp77] : List Value))).toArray) (by kernel_rfl) (ldBN ty24 (l := (([.int .i64 x70, .string x71, .string x72, .bool x73, .int .i64 x74, .slice A76 x75.length cp77] : List Value))) (o := 0) (cs := (([.int .i64 x70, .string x71, .string x72, .bool x73, .int .i64 x74, .slice A76 x75.length cp77] : List Value))) (ent_refl _) (by kernel_rfl) (whole _ _ (by kernel_rfl)))) hI ?_)
                        have hI := hI.mono (pick2 _ _ _)
                        refine OpsT.cons (Does.storeLit (T := 24) (b := b18) (o := 0) (v := .agg ((([.int .i64 x70, .string x71, .string x72, .bool x73, .int .i64 x74, .slice A76 x75.length cp77] : List Value))).toArray) (l := (([.int .i64 x35, .string x36, .string x37, .bool x38, .int .i64 x39, .slice A41 x40.length cp42] : List Value))) (vs := (([.int .i64 x70, .string x71, .string x72, .bool x73, .int .i64 x74, .slice A76 x75.length cp77] : List Value))) (L' := (([.int .i64 x70, .string x71, .string x72, .bool x73, .int .i64 x74, .slice A76 x75.length cp77] : List Value))) (by kernel_rfl) ty24 hI (by kernel_rfl) (by kernel_rfl) (by kernel_rfl) (by kernel_rfl) (by kernel_rfl) ?_)
                        intro w hI
                        refine OpsT.done ?_
                        refine Qn.block_normal ?_
                        have hI := hI.mono (pick2 _ _ _)
                        have hI := hI.drop
                        have e := someS h2
                        subst e
                        exact Qn.thenJ fun a ha => ⟨x33 ++ (gt a0 x34), x70, x71, x72, x73, x74, x75, Z67, A76, cp77, rfl, ha.keep [0, 1, 5, 6, 8, 9] (by kernel_rfl), hI, hle68, hr78⟩
                      · rw [if_neg hb205] at h2
                        refine CodT.no' (b := x82 == 0) (by kernel_rfl) (by simpa using hb205) ?_
                        refine CodT.skip ?_
                        refine Qn.block_normal ?_
                        have hI := hI.drop
                        have e := someS h2
                        subst e
                        exact Qn.thenJ fun a ha => ⟨x33, x35, x36, x37, x38, x39, x40, Z67, A41, cp42, rfl, ha.keep [0, 1, 5, 6, 8, 9] (by kernel_rfl), hI, hle68, (hr43.mono hle68)⟩
            ·
              rintro a w ⟨x50, x51, x52, x53, x54, x55, x56, Z48, A57, cp58, rfl, ha, hI, hle49, hr59⟩
              try dsimp only at h1
              refine CodT.of ?_ ha
              refine CodT.regionL [0, 1, 2] (by kernel_rfl) ?_
              refine OpsT.pures (r := []) [0, 1, 2] [0, 1, 5, 6, 8, 9] (S' := [(0, .slice A_a0 a0.length c_a0), (1, .int .i64 a1), (5, .bool y2), (6, .pointer (some ⟨b18, 0, none⟩)), (8, .string x50), (9, .int .i64 (wi64 (x34 + 1)))]) (by kernel_rfl) ?_
              refine OpsT.done ?_
              exact Qn.thenJ fun a ha => ⟨k, Nat.lt_succ_self k, x50, wi64 (x34 + 1), x51, x52, x53, x54, x55, x56, Z48, A57, cp58, h1, ha.keep [0, 1, 5, 6, 8, 9] (by kernel_rfl), hI, (Hp.le_trans hle32 hle49), hr59⟩
          · rw [if_neg hb47] at h1
            refine CodT.no' (b := decide (x34 < (a0.length : Int))) (by kernel_rfl) (by simpa using hb47) ?_
            refine CodT.exit ?_
            refine Qn.exit_then ?_
            refine Qn.exit_then ?_
            refine Qn.block ?_
            have e := someS h1
            subst e
            exact Qn.thenJ fun a ha => ⟨x33, x35, x36, x37, x38, x39, x40, Z31, A41, cp42, rfl, ha.keep [1, 5, 6, 8] (by kernel_rfl), hI, hle32, hr43⟩
        ·
          rintro a w ⟨x21, x22, x23, x24, x25, x26, x27, Z19, A28, cp29, rfl, ha, hI, hle20, hr30⟩
          try dsimp only at h0
          refine Qn.of ?_ ha
          refine Qn.then ?_
          refine CodT.seq ?_
          refine CodT.regionL [0, 1, 2, 3, 4, 5, 6, 7, 8, 9, 10, 11, 12] (by kernel_rfl) ?_
          refine OpsT.cons (Does.yi (Yl.load (d := 102) (T := 24) (v := .agg ((([.int .i64 x22, .string x23, .string x24, .bool x25, .int .i64 x26, .slice A28 x27.length cp29] : List Value))).toArray) (by kernel_rfl) (ldBN ty24 (l := (([.int .i64 x22, .string x23, .string x24, .bool x25, .int .i64 x26, .slice A28 x27.length cp29] : List Value))) (o := 0) (cs := (([.int .i64 x22, .string x23, .string x24, .bool x25, .int .i64 x26, .slice A28 x27.length cp29] : List Value))) (ent_refl _) (by kernel_rfl) (whole _ _ (by kernel_rfl)))) hI ?_)
          refine OpsT.pures (r := [3, 4, 5, 6, 7, 8, 9, 10, 11, 12]) [1, 2] [1, 5, 8, 102, 104] (S' := [(1, .int .i64 a1), (5, .bool y2), (8, .string x21), (102, .agg ((([.int .i64 x22, .string x23, .string x24, .bool x25, .int .i64 x26, .slice A28 x27.length cp29] : List Value))).toArray), (104, .agg (c_ApiOp (ApiOp.mk 2 (⟨#[]⟩ : ByteArray) (⟨#[]⟩ : ByteArray) a1 0 0)).toArray)]) (by kernel_rfl) ?_
          obtain ⟨⟨y214, y215, y216, y217, y218, y219, y223, y225⟩, hc213, h0⟩ := bindS h0
          try dsimp only at h0
          refine OpsT.cons (Does.call (d := some 105) (n := 20) (vs := [.agg ((([.int .i64 x22, .string x23, .string x24, .bool x25, .int .i64 x26, .slice A28 x27.length cp29] : List Value))).toArray, .agg (c_ApiOp (ApiOp.mk 2 (⟨#[]⟩ : ByteArray) (⟨#[]⟩ : ByteArray) a1 0 0)).toArray, .int .i64 0]) (by kernel_rfl) en20 (c20 w0 w _ _ hI (hT.mono hle20) x22 x23 x24 x25 x26 A28 cp29 x27 hr30 (ApiOp.mk 2 (⟨#[]⟩ : ByteArray) (⟨#[]⟩ : ByteArray) a1 0 0) 0 _ hc213) ?_)
          rintro e w ⟨A220, cp221, Z226, hle227, rfl, hr222, hl224, hI⟩
          refine ⟨_, rfl, ?_⟩
          refine OpsT.pures (r := [8, 9, 10, 11, 12]) [4, 5, 6, 7] [1, 5, 8, 106, 107, 108] (S' := [(1, .int .i64 a1), (5, .bool y2), (8, .string x21), (106, .agg ((([.int .i64 y214, .string y215, .string y216, .bool y217, .int .i64 y218, .slice A220 y219.length cp221] : List Value))).toArray), (107, .agg (c_ApiEvent y223).toArray), (108, .int .i64 y225)]) (by kernel_rfl) ?_
          refine OpsT.cons (Does.allocL (d := 13) (T := 24) ((([.int .i64 0, .string (⟨#[]⟩ : ByteArray), .string (⟨#[]⟩ : ByteArray), .bool false, .int .i64 0, .slice none 0 0] : List Value))) (by kernel_rfl) ty24 hI (by kernel_rfl) ?_)
          intro b228 w hI
          refine OpsT.cons (Does.allocL (d := 14) (T := 39) (c_ApiEvent (ApiEvent.mk 0 0 (⟨#[]⟩ : ByteArray) 0 0 (List.replicate 32 (0 : Int)))) (by kernel_rfl) ty39 hI (by kernel_rfl) ?_)
          intro b229 w hI
          have hI := hI.mono (pick2 _ _ _)
          refine OpsT.cons (Does.storeLit (T := 24) (b := b228) (o := 0) (v := .agg ((([.int .i64 y214, .string y215, .string y216, .bool y217, .int .i64 y218, .slice A220 y219.length cp221] : List Value))).toArray) (l := (([.int .i64 0, .string (⟨#[]⟩ : ByteArray), .string (⟨#[]⟩ : ByteArray), .bool false, .int .i64 0, .slice none 0 0] : List Value))) (vs := (([.int .i64 y214, .string y215, .string y216, .bool y217, .int .i64 y218, .slice A220 y219.length cp221] : List Value))) (L' := (([.int .i64 y214, .string y215, .string y216, .bool y217, .int .i64 y218, .slice A220 y219.length cp221] : List Value))) (by kernel_rfl) ty24 hI (by kernel_rfl) (by kernel_rfl) (by kernel_rfl) (by kernel_rfl) (by kernel_rfl) ?_)
          intro w hI
          have hI := hI.mono (pick2 _ _ _)
          refine OpsT.cons (Does.storeLit (T := 39) (b := b229) (o := 0) (v := .agg (c_ApiEvent y223).toArray) (l := c_ApiEvent (ApiEvent.mk 0 0 (⟨#[]⟩ : ByteArray) 0 0 (List.replicate 32 (0 : Int)))) (vs := c_ApiEvent y223) (L' := c_ApiEvent y223) (by kernel_rfl) ty39 hI (by kernel_rfl) (len_ApiEvent _ hl224) (by rw [(len_ApiEvent _ (by kernel_rfl))]; kernel_rfl) (ones_app _ _ (by kernel_rfl) (ones_cA _)) (lset_all _ _ (Eq.trans (len_ApiEvent _ hl224) (Eq.symm (len_ApiEvent _ (by kernel_rfl))))) ?_)
          intro w hI
          refine OpsT.pures (r := []) [12] [1, 5, 8, 13, 14, 15] (S' := [(1, .int .i64 a1), (5, .bool y2), (8, .string x21), (13, .pointer (some ⟨b228, 0, none⟩)), (14, .pointer (some ⟨b229, 0, none⟩)), (15, .int .i64 y225)]) (by kernel_rfl) ?_
          refine OpsT.done ?_
          refine Qn.then ?_
          obtain ⟨r1, h1, h0⟩ := bindS h0
          refine CodT.meet (fun a w => ∃ (x230 : Bool), x230 = r1 ∧ Fr 130 [(4, .bool x230)] a ∧ Inv w0 Z226 w A) ?_ ?_
          ·
            refine CodT.drawI (n := 22) [] (by kernel_rfl) (by kernel_rfl) hI ?_
            intro w hI
            refine GmT.p' 0 109 (.bool y2) (by kernel_rfl) (by kernel_rfl) ?_
            refine GmT.p' 1 110 (.bool y2) (by kernel_rfl) (by kernel_rfl) ?_
            by_cases hb231 : y2 = true
            · rw [if_pos hb231] at h1
              refine GmT.keep [1, 8, 13, 14, 15, 110] (S' := [(1, .int .i64 a1), (8, .string x21), (13, .pointer (some ⟨b228, 0, none⟩)), (14, .pointer (some ⟨b229, 0, none⟩)), (15, .int .i64 y225), (110, .bool true)]) (by (try simp only [hb231]); kernel_rfl) ?_
              refine GmT.p' 2 111 (.int .i64 y225) (by kernel_rfl) (by kernel_rfl) ?_
              refine GmT.p' 3 112 (.bool (y225 == 0)) (by kernel_rfl) (by kernel_rfl) ?_
              refine GmT.p' 4 113 (.bool (y225 == 0)) (by kernel_rfl) (by kernel_rfl) ?_
              refine GmT.p' 5 114 (.bool (y225 == 0)) (by kernel_rfl) (by kernel_rfl) ?_
              by_cases hb232 : (y225 == 0) = true
              · rw [if_pos hb232] at h1
                refine GmT.keep [1, 8, 13, 14, 114] (S' := [(1, .int .i64 a1), (8, .string x21), (13, .pointer (some ⟨b228, 0, none⟩)), (14, .pointer (some ⟨b229, 0, none⟩)), (114, .bool true)]) (by (try simp only [hb232]); kernel_rfl) ?_
                refine GmT.p' 6 115 (.pointer (some ⟨b228, 2, none⟩)) (by kernel_rfl) (by kernel_rfl) ?_
                refine GmT.p' 8 117 (.string x21) (by kernel_rfl) (by kernel_rfl) ?_
                refine GmT.r (i := 7) 2 (by kernel_rfl) (by kernel_rfl) (Yl.load (d := 116) (T := 9) (v := .string y216) (by kernel_rfl) (ldB ty9 (l := (([.int .i64 y214, .string y215, .string y216, .bool y217, .int .i64 y218, .slice A220 y219.length cp221] : List Value))) (o := 2) (v := .string y216) (pick2 _ _ _) (by kernel_rfl))) hI ?_
                refine GmT.p' 9 118 (.bool (seq y216 x21)) (by kernel_rfl) (by kernel_rfl) ?_
                refine GmT.p' 10 119 (.bool (seq y216 x21)) (by kernel_rfl) (by kernel_rfl) ?_
                refine GmT.p' 11 120 (.bool (seq y216 x21)) (by kernel_rfl) (by kernel_rfl) ?_
                by_cases hb233 : (seq y216 x21) = true
                · rw [if_pos hb233] at h1
                  refine GmT.keep [1, 8, 14, 120] (S' := [(1, .int .i64 a1), (8, .string x21), (14, .pointer (some ⟨b229, 0, none⟩)), (120, .bool true)]) (by (try simp only [hb233]); kernel_rfl) ?_
                  refine GmT.p' 13 122 (.int .i64 a1) (by kernel_rfl) (by kernel_rfl) ?_
                  refine GmT.p' 14 123 (.string x21) (by kernel_rfl) (by kernel_rfl) ?_
                  refine GmT.p' 15 124 (.int .i64 (x21.size : Int)) (by kernel_rfl) (by kernel_rfl) ?_
                  refine GmT.p' 16 125 (.string x21) (by kernel_rfl) (by kernel_rfl) ?_
                  refine GmT.r (i := 12) 2 (by kernel_rfl) (by kernel_rfl) (Yl.load (d := 121) (T := 39) (v := .agg (c_ApiEvent y223).toArray) (by kernel_rfl) (ldBN ty39 (l := c_ApiEvent y223) (o := 0) (cs := c_ApiEvent y223) (ent_refl _) (len_ApiEvent _ hl224) (whole _ _ (len_ApiEvent _ hl224)))) hI ?_
                  obtain ⟨y235, hc234, h1⟩ := bindS h1
                  try dsimp only at h1
                  refine GmT.o (i := 17) (by kernel_rfl) (Does.call (d := some 126) (n := 21) (vs := [.string x21]) (by kernel_rfl) en21 (c21 w0 w _ _ hI (hT.mono (Hp.le_trans hle20 hle227)) x21 _ hc234) ?_)
                  rintro e w ⟨rfl, hl236, hI⟩
                  refine ⟨_, rfl, ?_⟩
                  refine ⟨fun _ _ => hI, ?_⟩
                  refine GmT.o (i := 18) (by kernel_rfl) (Does.yi (Yl.buildB (d := 127) (T := 39) (ps := [(0, .int .i64 2), (1, .int .i64 5), (3, .int .i64 a1), (4, .int .i64 (x21.size : Int)), (5, .agg (cA (Value.int .u8) y235).toArray)]) (cells := (c_ApiEvent (ApiEvent.mk 2 5 (⟨#[]⟩ : ByteArray) a1 (x21.size : Int) y235)).toArray) (by kernel_rfl) ((built_all (places := [(0, 1), (1, 1), (2, 1), (3, 1), (4, 1), (5, 32)]) (lens := [1, 1, 1, 1, 1, 32]) (zs := [([.int .i64 0] : List Value), ([.int .i64 0] : List Value), ([.string (⟨#[]⟩ : ByteArray)] : List Value), ([.int .i64 0] : List Value), ([.int .i64 0] : List Value), cA (Value.int .u8) (List.replicate 32 (0 : Int))]) (fun _ => by kernel_rfl) (by kernel_rfl) [(0, .int .i64 2, ([.int .i64 2] : List Value)), (1, .int .i64 5, ([.int .i64 5] : List Value)), (3, .int .i64 a1, ([.int .i64 a1] : List Value)), (4, .int .i64 (x21.size : Int), ([.int .i64 (x21.size : Int)] : List Value)), (5, .agg (cA (Value.int .u8) y235).toArray, cA (Value.int .u8) y235)] (List.forall_mem_cons.2 ⟨⟨rfl, rfl, rfl⟩, (List.forall_mem_cons.2 ⟨⟨rfl, rfl, rfl⟩, (List.forall_mem_cons.2 ⟨⟨rfl, rfl, rfl⟩, (List.forall_mem_cons.2 ⟨⟨rfl, rfl, rfl⟩, (List.forall_mem_cons.2 ⟨⟨rfl, congrArg some ((cA_length _ _).trans hl236).symm, congrArg (fun n => some (5, n)) ((cA_length _ _).trans hl236).symm⟩, (fun _ h => by cases h)⟩)⟩)⟩)⟩)⟩)).trans (by first | rfl | simp [c_ApiEvent]))) hI ?_)
                  refine ⟨fun _ h => h, ?_⟩
                  refine GmT.r (i := 19) 2 (by kernel_rfl) (by kernel_rfl) (Yl.eqlS (d := 128) (T := 39) (xs := ([.int .i64 y223.Kind, .int .i64 y223.ID, .string y223.Name, .int .i64 y223.Time, .int .i64 y223.Len] : List Value) ++ (cA (Value.int .u8) y223.Sum)) (ys := ([.int .i64 2, .int .i64 5, .string (⟨#[]⟩ : ByteArray), .int .i64 a1, .int .i64 (x21.size : Int)] : List Value) ++ (cA (Value.int .u8) y235)) (r := eq_ApiEvent y223 (ApiEvent.mk 2 5 (⟨#[]⟩ : ByteArray) a1 (x21.size : Int) y235)) (by kernel_rfl) Go.Proofs.Tryd.underlying39 (by kernel_rfl) (by kernel_rfl) (.cons rfl (part1 (v := .int .i64 y223.Kind) ty35 (by kernel_rfl)) (part1 (v := .int .i64 2) ty35 (by kernel_rfl)) (eqI Go.Proofs.Tryd.underlying35) (.cons rfl (part1 (v := .int .i64 y223.ID) ty3 (by kernel_rfl)) (part1 (v := .int .i64 5) ty3 (by kernel_rfl)) (eqI Go.Proofs.Tryd.underlying3) (.cons rfl (part1 (v := .string y223.Name) ty9 (by kernel_rfl)) (part1 (v := .string (⟨#[]⟩ : ByteArray)) ty9 (by kernel_rfl)) (eqS Go.Proofs.Tryd.underlying9) (.cons rfl (part1 (v := .int .i64 y223.Time) ty3 (by kernel_rfl)) (part1 (v := .int .i64 a1) ty3 (by kernel_rfl)) (eqI Go.Proofs.Tryd.underlying3) (.cons rfl (part1 (v := .int .i64 y223.Len) ty3 (by kernel_rfl)) (part1 (v := .int .i64 (x21.size : Int)) ty3 (by kernel_rfl)) (eqI Go.Proofs.Tryd.underlying3) (.cons rfl (partN ty37 (tail_take _ _ _ _ _ (by kernel_rfl) hl224)) (partN ty37 (tail_take _ _ _ _ _ (by kernel_rfl) hl236)) (eqAr Go.Proofs.Tryd.underlying37 Go.Proofs.Tryd.underlying5 ty5 hl224 hl236) .nil))))))) hI ?_
                  refine GmT.p' 20 129 (.bool (eq_ApiEvent y223 (ApiEvent.mk 2 5 (⟨#[]⟩ : ByteArray) a1 (x21.size : Int) y235))) (by kernel_rfl) (by kernel_rfl) ?_
                  refine GmT.p' 21 4 (.bool (eq_ApiEvent y223 (ApiEvent.mk 2 5 (⟨#[]⟩ : ByteArray) a1 (x21.size : Int) y235))) (by kernel_rfl) (by kernel_rfl) ?_
                  refine GmT.done (by kernel_rfl) ?_
                  have hI := hI.drop
                  have hI := hI.drop
                  have hI := hI.drop
                  have e := someS h1
                  subst e
                  exact Qn.thenJ fun a ha => ⟨eq_ApiEvent y223 (ApiEvent.mk 2 5 (⟨#[]⟩ : ByteArray) a1 (x21.size : Int) y235), rfl, ha.keep [4] (by kernel_rfl), hI⟩
                · rw [if_neg hb233] at h1
                  have hb233 : (seq y216 x21) = false := by simpa using hb233
                  refine GmT.keep [1, 8, 14, 120] (S' := [(1, .int .i64 a1), (8, .string x21), (14, .pointer (some ⟨b229, 0, none⟩)), (120, .bool false)]) (by (try simp only [hb233]); kernel_rfl) ?_
                  refine GmT.p' 12 121 (undef) (by kernel_rfl) (by kernel_rfl) ?_
                  refine GmT.p' 13 122 (undef) (by kernel_rfl) (by kernel_rfl) ?_
                  refine GmT.p' 14 123 (undef) (by kernel_rfl) (by kernel_rfl) ?_
                  refine GmT.p' 15 124 (undef) (by kernel_rfl) (by kernel_rfl) ?_
                  refine GmT.p' 16 125 (undef) (by kernel_rfl) (by kernel_rfl) ?_
                  refine GmT.p' 17 126 (undef) (by kernel_rfl) (by kernel_rfl) ?_
                  refine GmT.p' 18 127 (undef) (by kernel_rfl) (by kernel_rfl) ?_
                  refine GmT.p' 19 128 (undef) (by kernel_rfl) (by kernel_rfl) ?_
                  refine GmT.p' 20 129 (.bool false) (by kernel_rfl) (by kernel_rfl) ?_
                  refine GmT.p' 21 4 (.bool false) (by kernel_rfl) (by kernel_rfl) ?_
                  refine GmT.done (by kernel_rfl) ?_
                  have hI := hI.drop
                  have hI := hI.drop
                  have hI := hI.drop
                  have e := someS h1
                  subst e
                  exact Qn.thenJ fun a ha => ⟨false, rfl, ha.keep [4] (by kernel_rfl), hI⟩
              · rw [if_neg hb232] at h1
                have hb232 : (y225 == 0) = false := by simpa using hb232
                refine GmT.keep [1, 8, 13, 14, 114] (S' := [(1, .int .i64 a1), (8, .string x21), (13, .pointer (some ⟨b228, 0, none⟩)), (14, .pointer (some ⟨b229, 0, none⟩)), (114, .bool false)]) (by (try simp only [hb232]); kernel_rfl) ?_
                refine GmT.p' 6 115 (undef) (by kernel_rfl) (by kernel_rfl) ?_
                refine GmT.p' 7 116 (undef) (by kernel_rfl) (by kernel_rfl) ?_
                refine GmT.p' 8 117 (undef) (by kernel_rfl) (by kernel_rfl) ?_
                refine GmT.p' 9 118 (undef) (by kernel_rfl) (by kernel_rfl) ?_
                refine GmT.p' 10 119 (.bool false) (by kernel_rfl) (by kernel_rfl) ?_
                refine GmT.p' 11 120 (.bool false) (by kernel_rfl) (by kernel_rfl) ?_
                refine GmT.p' 12 121 (undef) (by kernel_rfl) (by kernel_rfl) ?_
                refine GmT.p' 13 122 (undef) (by kernel_rfl) (by kernel_rfl) ?_
                refine GmT.p' 14 123 (undef) (by kernel_rfl) (by kernel_rfl) ?_
                refine GmT.p' 15 124 (undef) (by kernel_rfl) (by kernel_rfl) ?_
                refine GmT.p' 16 125 (undef) (by kernel_rfl) (by kernel_rfl) ?_
                refine GmT.p' 17 126 (undef) (by kernel_rfl) (by kernel_rfl) ?_
                refine GmT.p' 18 127 (undef) (by kernel_rfl) (by kernel_rfl) ?_
                refine GmT.p' 19 128 (undef) (by kernel_rfl) (by kernel_rfl) ?_
                refine GmT.p' 20 129 (.bool false) (by kernel_rfl) (by kernel_rfl) ?_
                refine GmT.p' 21 4 (.bool false) (by kernel_rfl) (by kernel_rfl) ?_
                refine GmT.done (by kernel_rfl) ?_
                have hI := hI.drop
                have hI := hI.drop
                have hI := hI.drop
                have e := someS h1
                subst e
                exact Qn.thenJ fun a ha => ⟨false, rfl, ha.keep [4] (by kernel_rfl), hI⟩
            · rw [if_neg hb231] at h1
              have hb231 : y2 = false := by simpa using hb231
              refine GmT.keep [1, 8, 13, 14, 15, 110] (S' := [(1, .int .i64 a1), (8, .string x21), (13, .pointer (some ⟨b228, 0, none⟩)), (14, .pointer (some ⟨b229, 0, none⟩)), (15, .int .i64 y225), (110, .bool false)]) (by (try simp only [hb231]); kernel_rfl) ?_
              refine GmT.p' 2 111 (undef) (by kernel_rfl) (by kernel_rfl) ?_
              refine GmT.p' 3 112 (undef) (by kernel_rfl) (by kernel_rfl) ?_
              refine GmT.p' 4 113 (.bool false) (by kernel_rfl) (by kernel_rfl) ?_
              refine GmT.p' 5 114 (.bool false) (by kernel_rfl) (by kernel_rfl) ?_
              refine GmT.p' 6 115 (undef) (by kernel_rfl) (by kernel_rfl) ?_
              refine GmT.p' 7 116 (undef) (by kernel_rfl) (by kernel_rfl) ?_
              refine GmT.p' 8 117 (undef) (by kernel_rfl) (by kernel_rfl) ?_
              refine GmT.p' 9 118 (undef) (by kernel_rfl) (by kernel_rfl) ?_
              refine GmT.p' 10 119 (.bool false) (by kernel_rfl) (by kernel_rfl) ?_
              refine GmT.p' 11 120 (.bool false) (by kernel_rfl) (by kernel_rfl) ?_
              refine GmT.p' 12 121 (undef) (by kernel_rfl) (by kernel_rfl) ?_
              refine GmT.p' 13 122 (undef) (by kernel_rfl) (by kernel_rfl) ?_
              refine GmT.p' 14 123 (undef) (by kernel_rfl) (by kernel_rfl) ?_
              refine GmT.p' 15 124 (undef) (by kernel_rfl) (by kernel_rfl) ?_
              refine GmT.p' 16 125 (undef) (by kernel_rfl) (by kernel_rfl) ?_
              refine GmT.p' 17 126 (undef) (by kernel_rfl) (by kernel_rfl) ?_
              refine GmT.p' 18 127 (undef) (by kernel_rfl) (by kernel_rfl) ?_
              refine GmT.p' 19 128 (undef) (by kernel_rfl) (by kernel_rfl) ?_
              refine GmT.p' 20 129 (.bool false) (by kernel_rfl) (by kernel_rfl) ?_
              refine GmT.p' 21 4 (.bool false) (by kernel_rfl) (by kernel_rfl) ?_
              refine GmT.done (by kernel_rfl) ?_
              have hI := hI.drop
              have hI := hI.drop
              have hI := hI.drop
              have e := someS h1
              subst e
              exact Qn.thenJ fun a ha => ⟨false, rfl, ha.keep [4] (by kernel_rfl), hI⟩
          ·
            rintro a w ⟨x230, rfl, ha, hI⟩
            try dsimp only at h0
            refine CodT.of ?_ ha
            refine CodT.ret ?_
            have e := someS h0
            subst e
            refine Qn.keep [4] (S' := [(4, .bool x230)]) (by kernel_rfl) ?_
            exact post_ret (v := .bool x230) (fun a ha => RunRes.run (vs := [.bool x230]) (.tmp (t := 4) (by kernel_rfl) .nil) ha (by kernel_rfl)) ⟨rfl, hI.weaken (Hp.le_trans hle20 hle227)⟩
end Go.Cen
