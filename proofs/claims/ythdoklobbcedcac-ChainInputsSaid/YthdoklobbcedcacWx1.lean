/- That the machine computes these: walks, printed by a program of ours. -/
import Derived.Test.YthdoklobbcedcacPx
import Derived.Test.YthdoklobbcedcacWx0
set_option linter.unusedVariables false
set_option linter.unusedSimpArgs false
namespace Go.Cen
set_option maxRecDepth 100000
set_option maxHeartbeats 4000000
/-- strings.indexFunc -/
theorem c76 (w0 w : World) (Z : Hp) (A : HP) (hI : Inv w0 Z w A) (a0 : ByteArray) (a2 : Bool) (r : Int) (h0 : strings_indexFunc__name_Valid_1 a0 a2 = some r) :
  Calls prog 76 #[.string a0, .func (.func 65) #[] #[], .bool a2] w (fun e w' => e = .returned (iv r) ∧ Inv w0 Z w' A) := by
 have e4 := calls_intro (R := (fun e w' => e = .returned (iv r) ∧ Inv w0 Z w' A)) (w := w) (args := [.string a0, .func (.func 65) #[] #[], .bool a2]) (fn := Go.Proofs.Try.f76) 21 Go.Proofs.Try.func76 (by rfl) Go.Proofs.Try.ntmps76 (by kernel_rfl)
 refine e4 ?_
 clear e4
 unfold strings_indexFunc__name_Valid_1 at h0
 refine cQ ?_
 refine cR [0] (by kernel_rfl) ?_
 refine oP (r := []) [0] (S' := [(0, .string a0), (1, .func (.func 65) #[] #[]), (2, .bool a2)]) (by kernel_rfl) ?_
 refine oD ?_
 refine qT ?_
 refine cQ ?_
 refine cQ ?_
 refine cR [0, 1] (by kernel_rfl) ?_
 refine oP (r := [1]) [0] (S' := [(1, .func (.func 65) #[] #[]), (2, .bool a2), (9, .string a0)]) (by kernel_rfl) ?_
 refine oC (Does.rangeStr (d := 10) (T := 9) (s := a0) (by kernel_rfl) Go.Proofs.Try.underlying9 hI ?_)
 intro b1 w hI
 refine oD ?_
 refine qT ?_
 obtain ⟨r1, h1, h0⟩ := bindS h0
 refine CodT.meet1 (fun a w => .inr () = r1 ∧ Fr 21 [] a ∧ Inv w0 Z w A) ?_ ?_
 ·
  refine CodT.block ?_
  refine (fun a ha => wp_loopN (fun k a w => ∃ (x2 : Nat), strings_indexFunc__name_Valid_1.l0 a0 a2 k x2 = some r1 ∧ Fr 21 [(1, .func (.func 65) #[] #[]), (2, .bool a2), (10, pb b1)] a ∧ Inv w0 Z w (star (pt b1 (.stringIter a0 x2)) A)) ?_ FU a w ⟨0, h1, ha.keep [1, 2, 10] (by kernel_rfl), hI⟩)
  clear h1 hI
  rintro k a w ⟨x2, h1, ha, hI⟩
  rcases k with _ | k
  ·
   cases h1
  simp only [strings_indexFunc__name_Valid_1.l0] at h1
  refine CodT.of ?_ ha
  refine cQ ?_
  refine cR [0, 1] (by kernel_rfl) ?_
  by_cases hb3 : x2 < a0.size
  ·
   rw [if_pos hb3] at h1
   refine oC (Does.nextStr (d := 11) (b := b1) (pos := x2) (s := a0) (by kernel_rfl) hI hb3 ?_)
   intro w hI
   refine oP (r := []) [1] (S' := [(1, .func (.func 65) #[] #[]), (2, .bool a2), (10, pb b1), (11, .tuple #[.bool true, iv (x2 : Int), .int .i32 (runeAt a0 x2)]), (12, .bool true)]) (by kernel_rfl) ?_
   refine oD ?_
   refine qT ?_
   refine cQ ?_
   refine CodT.yes (by kernel_rfl) ?_
   refine CodT.skip ?_
   refine qT ?_
   refine CodT.block ?_
   refine cQ ?_
   refine cR [0, 1, 2, 3] (by kernel_rfl) ?_
   refine oP (r := []) [0, 1, 2, 3] (S' := [(1, .func (.func 65) #[] #[]), (2, .bool a2), (7, iv (x2 : Int)), (8, .int .i32 (runeAt a0 x2)), (10, pb b1)]) (by kernel_rfl) ?_
   refine oD ?_
   refine qT ?_
   refine cQ ?_
   refine cR [0, 1, 2, 3, 4] (by kernel_rfl) ?_
   refine oP (r := [2, 3, 4]) [0, 1] (S' := [(1, .func (.func 65) #[] #[]), (2, .bool a2), (7, iv (x2 : Int)), (10, pb b1), (15, .func (.func 65) #[] #[]), (16, .int .i32 (runeAt a0 x2))]) (by kernel_rfl) ?_
   obtain ⟨y5, hc4, h1⟩ := bindS h1
   try dsimp only at h1
   refine oC (Does.call (d := some 17) (n := 65) (vs := [.int .i32 (runeAt a0 x2)]) (by kernel_rfl) en65 (c65 w0 w _ _ hI (runeAt a0 x2) _ hc4) ?_)
   rintro e w ⟨rfl, hI⟩
   refine ⟨_, rfl, ?_⟩
   refine oP (r := []) [3, 4] (S' := [(1, .func (.func 65) #[] #[]), (2, .bool a2), (7, iv (x2 : Int)), (10, pb b1), (19, .bool (y5 == a2))]) (by kernel_rfl) ?_
   refine oD ?_
   refine qT ?_
   by_cases hb6 : (y5 == a2) = true
   ·
    rw [if_pos hb6] at h1
    refine CodT.yes' (b := y5 == a2) (by kernel_rfl) hb6 ?_
    refine cQ ?_
    refine cR [0, 1] (by kernel_rfl) ?_
    refine oP (r := []) [0, 1] (S' := [(6, iv (x2 : Int))]) (by kernel_rfl) ?_
    refine oD ?_
    refine qT ?_
    refine CodT.ret ?_
    refine Qn.block_ret ?_
    refine Qn.ret_then ?_
    refine Qn.block_ret ?_
    refine Qn.ret_then ?_
    refine Qn.ret_then ?_
    have hI := hI.drop
    have e := someS h1
    subst e
    try dsimp only at h0
    have e := someS h0
    subst e
    refine qK [6] (S' := [(6, iv (x2 : Int))]) (by kernel_rfl) ?_
    exact post_ret (v := iv (x2 : Int)) (fun a ha => RunRes.run (vs := [iv (x2 : Int)]) (.tmp (t := 6) (by kernel_rfl) .nil) ha (by kernel_rfl)) ⟨rfl, hI⟩
   ·
    rw [if_neg hb6] at h1
    refine CodT.no' (b := y5 == a2) (by kernel_rfl) (by simpa using hb6) ?_
    refine CodT.skip ?_
    refine Qn.block_normal ?_
    exact Qn.thenJ fun a ha => ⟨k, Nat.lt_succ_self k, x2 + runeW a0 x2, h1, ha.keep [1, 2, 10] (by kernel_rfl), hI⟩
  ·
   rw [if_neg hb3] at h1
   refine oC (Does.nextEnd (d := 11) (b := b1) (pos := x2) (s := a0) (by kernel_rfl) hI hb3 ?_)
   refine oP (r := []) [1] (S' := [(1, .func (.func 65) #[] #[]), (2, .bool a2), (10, pb b1), (11, .tuple #[.bool false]), (12, .bool false)]) (by kernel_rfl) ?_
   refine oD ?_
   refine qT ?_
   refine cQ ?_
   refine CodT.no (by kernel_rfl) ?_
   refine CodT.exit ?_
   refine Qn.exit_then ?_
   refine Qn.exit_then ?_
   refine Qn.block ?_
   have hI := hI.drop
   have e := someS h1
   subst e
   exact Qn.thenJ fun a ha => ⟨rfl, ha.keep [] (by kernel_rfl), hI⟩
 ·
  rintro a w ⟨rfl, ha, hI⟩
  try dsimp only at h0
  refine Qn.of ?_ ha
  refine qT ?_
  refine cQ ?_
  refine cR [0] (by kernel_rfl) ?_
  refine oP (r := []) [0] (S' := [(6, iv (-1))]) (by kernel_rfl) ?_
  refine oD ?_
  refine qT ?_
  refine CodT.ret ?_
  have e := someS h0
  subst e
  refine qK [6] (S' := [(6, iv (-1))]) (by kernel_rfl) ?_
  exact post_ret (v := iv (-1)) (fun a ha => RunRes.run (vs := [iv (-1)]) (.tmp (t := 6) (by kernel_rfl) .nil) ha (by kernel_rfl)) ⟨rfl, hI⟩
/-- strings.IndexFunc -/
theorem c67 (w0 w : World) (Z : Hp) (A : HP) (hI : Inv w0 Z w A) (a0 : ByteArray) (r : Int) (h0 : strings_IndexFunc__name_Valid_1 a0 = some r) :
  Calls prog 67 #[.string a0, .func (.func 65) #[] #[]] w (fun e w' => e = .returned (iv r) ∧ Inv w0 Z w' A) := by
 have e4 := calls_intro (R := (fun e w' => e = .returned (iv r) ∧ Inv w0 Z w' A)) (w := w) (args := [.string a0, .func (.func 65) #[] #[]]) (fn := Go.Proofs.Try.f67) 8 Go.Proofs.Try.func67 (by rfl) Go.Proofs.Try.ntmps67 (by kernel_rfl)
 refine e4 ?_
 clear e4
 unfold strings_IndexFunc__name_Valid_1 at h0
 refine cQ ?_
 refine cR [0] (by kernel_rfl) ?_
 refine oP (r := []) [0] (S' := [(0, .string a0), (1, .func (.func 65) #[] #[])]) (by kernel_rfl) ?_
 refine oD ?_
 refine qT ?_
 refine cQ ?_
 refine cR [0, 1, 2, 3] (by kernel_rfl) ?_
 refine oP (r := [2, 3]) [0, 1] (S' := [(5, .string a0), (6, .func (.func 65) #[] #[])]) (by kernel_rfl) ?_
 obtain ⟨y2, hc1, h0⟩ := bindS h0
 try dsimp only at h0
 refine oC (Does.call (d := some 7) (n := 76) (vs := [.string a0, .func (.func 65) #[] #[], .bool true]) (by kernel_rfl) en76 (c76 w0 w _ _ hI a0 true _ hc1) ?_)
 rintro e w ⟨rfl, hI⟩
 refine ⟨_, rfl, ?_⟩
 refine oP (r := []) [3] (S' := [(4, iv y2)]) (by kernel_rfl) ?_
 refine oD ?_
 refine qT ?_
 refine CodT.ret ?_
 have e := someS h0
 subst e
 refine qK [4] (S' := [(4, iv y2)]) (by kernel_rfl) ?_
 exact post_ret (v := iv y2) (fun a ha => RunRes.run (vs := [iv y2]) (.tmp (t := 4) (by kernel_rfl) .nil) ha (by kernel_rfl)) ⟨rfl, hI⟩
/-- cenotaph/name.Valid -/
theorem c49 (w0 w : World) (Z : Hp) (A : HP) (hI : Inv w0 Z w A) (a0 : ByteArray) (r : Bool) (h0 : name_Valid a0 = some r) :
  Calls prog 49 #[.string a0] w (fun e w' => e = .returned (.bool r) ∧ Inv w0 Z w' A) := by
 have e4 := calls_intro (R := (fun e w' => e = .returned (.bool r) ∧ Inv w0 Z w' A)) (w := w) (args := [.string a0]) (fn := Go.Proofs.Try.f49) 32 Go.Proofs.Try.func49 (by rfl) Go.Proofs.Try.ntmps49 (by kernel_rfl)
 refine e4 ?_
 clear e4
 unfold name_Valid at h0
 refine cQ ?_
 refine cR [0] (by kernel_rfl) ?_
 refine oP (r := []) [0] (S' := [(0, .string a0)]) (by kernel_rfl) ?_
 refine oD ?_
 refine qT ?_
 refine cQ ?_
 refine cR [0] (by kernel_rfl) ?_
 refine oP (r := []) [0] (S' := [(0, .string a0), (3, .func (.func 65) #[] #[])]) (by kernel_rfl) ?_
 refine oD ?_
 refine qT ?_
 refine cQ ?_
 refine cR [0, 1, 2] (by kernel_rfl) ?_
 refine oP (r := [1, 2]) [0] (S' := [(0, .string a0), (3, .func (.func 65) #[] #[]), (5, .string a0)]) (by kernel_rfl) ?_
 obtain ⟨y2, hc1, h0⟩ := bindS h0
 try dsimp only at h0
 refine oC (Does.call (d := some 6) (n := 66) (vs := [.string a0]) (by kernel_rfl) en66 (c66 w0 w _ _ hI a0 _ hc1) ?_)
 rintro e w ⟨rfl, hI⟩
 refine ⟨_, rfl, ?_⟩
 refine oP (r := []) [2] (S' := [(0, .string a0), (3, .func (.func 65) #[] #[]), (4, iv y2)]) (by kernel_rfl) ?_
 refine oD ?_
 refine qT ?_
 obtain ⟨r1, h1, h0⟩ := bindS h0
 refine CodT.meet (fun a w => ∃ (x3 : Bool), x3 = r1 ∧ Fr 32 [(2, .bool x3)] a ∧ Inv w0 Z w A) ?_ ?_
 ·
  refine cR [0, 1, 2, 3, 4, 5, 6, 7, 8, 9, 10, 11, 12, 13, 14, 15, 16, 17, 18, 19, 20, 21, 22, 23, 24, 25] (by kernel_rfl) ?_
  refine oP (r := [3, 4, 5, 6, 7, 8, 9, 10, 11, 12, 13, 14, 15, 16, 17, 18, 19, 20, 21, 22, 23, 24, 25]) [0, 1, 2] (S' := [(0, .string a0), (3, .func (.func 65) #[] #[]), (4, iv y2), (9, .bool (decide (y2 > 0)))]) (by kernel_rfl) ?_
  by_cases hb4 : (decide (y2 > 0)) = true
  ·
   rw [if_pos hb4] at h1
   refine oK [0, 3, 4, 9] (S' := [(0, .string a0), (3, .func (.func 65) #[] #[]), (4, iv y2), (9, .bool true)]) (by simp only [hb4]; kernel_rfl) ?_
   refine oP (r := [7, 8, 9, 10, 11, 12, 13, 14, 15, 16, 17, 18, 19, 20, 21, 22, 23, 24, 25]) [3, 4, 5, 6] (S' := [(0, .string a0), (3, .func (.func 65) #[] #[]), (13, .bool (decide (y2 ≤ 24)))]) (by kernel_rfl) ?_
   by_cases hb5 : (decide (y2 ≤ 24)) = true
   ·
    rw [if_pos hb5] at h1
    refine oK [0, 3, 13] (S' := [(0, .string a0), (3, .func (.func 65) #[] #[]), (13, .bool true)]) (by simp only [hb5]; kernel_rfl) ?_
    refine oP (r := [9, 10, 11, 12, 13, 14, 15, 16, 17, 18, 19, 20, 21, 22, 23, 24, 25]) [7, 8] (S' := [(0, .string a0), (13, .bool true), (14, .string a0), (15, .func (.func 65) #[] #[])]) (by kernel_rfl) ?_
    obtain ⟨y7, hc6, h1⟩ := bindS h1
    try dsimp only at h1
    refine oC (Does.call (d := some 16) (n := 67) (vs := [.string a0, .func (.func 65) #[] #[]]) (by kernel_rfl) en67 (c67 w0 w _ _ hI a0 _ hc6) ?_)
    rintro e w ⟨rfl, hI⟩
    refine ⟨_, rfl, ?_⟩
    refine oP (r := [13, 14, 15, 16, 17, 18, 19, 20, 21, 22, 23, 24, 25]) [10, 11, 12] (S' := [(0, .string a0), (19, .bool (decide (y7 < 0)))]) (by kernel_rfl) ?_
    by_cases hb8 : (decide (y7 < 0)) = true
    ·
     rw [if_pos hb8] at h1
     refine oK [0, 19] (S' := [(0, .string a0), (19, .bool true)]) (by simp only [hb8]; kernel_rfl) ?_
     refine oP (r := [14, 15, 16, 17, 18, 19, 20, 21, 22, 23, 24, 25]) [13] (S' := [(0, .string a0), (19, .bool true), (20, .string a0)]) (by kernel_rfl) ?_
     obtain ⟨hg9, h1⟩ := guardS h1
     refine oC (Does.yi (Yl.indexStr (d := 21) (T := 9) (k := .i64) (j := 0) (s := a0) (by kernel_rfl) Go.Proofs.Try.underlying9 hg9.1 hg9.2) hI ?_)
     refine oP (r := [18, 19, 20, 21, 22, 23, 24, 25]) [15, 16, 17] (S' := [(0, .string a0), (24, .bool ((bt a0 0) != 32))]) (by kernel_rfl) ?_
     by_cases hb10 : ((bt a0 0) != 32) = true
     ·
      rw [if_pos hb10] at h1
      refine oK [0, 24] (S' := [(0, .string a0), (24, .bool true)]) (by simp only [hb10]; kernel_rfl) ?_
      refine oP (r := [22, 23, 24, 25]) [18, 19, 20, 21] (S' := [(24, .bool true), (25, .string a0), (28, iv (wi64 ((a0.size : Int) - 1)))]) (by kernel_rfl) ?_
      obtain ⟨hg11, h1⟩ := guardS h1
      refine oC (Does.yi (Yl.indexStr (d := 29) (T := 9) (k := .i64) (j := wi64 ((a0.size : Int) - 1)) (s := a0) (by kernel_rfl) Go.Proofs.Try.underlying9 hg11.1 hg11.2) hI ?_)
      refine oP (r := []) [23, 24, 25] (S' := [(2, .bool ((bt a0 (wi64 ((a0.size : Int) - 1))) != 32))]) (by kernel_rfl) ?_
      refine oD ?_
      have e := someS h1
      subst e
      exact Qn.thenJ fun a ha => ⟨(bt a0 (wi64 ((a0.size : Int) - 1))) != 32, rfl, ha.keep [2] (by kernel_rfl), hI⟩
     ·
      rw [if_neg hb10] at h1
      have hb10 : ((bt a0 0) != 32) = false := by simpa using hb10
      refine oK [0, 24] (S' := [(0, .string a0), (24, .bool false)]) (by simp only [hb10]; kernel_rfl) ?_
      refine oP (r := []) [18, 19, 20, 21, 22, 23, 24, 25] (S' := [(2, .bool false)]) (by kernel_rfl) ?_
      refine oD ?_
      have e := someS h1
      subst e
      exact Qn.thenJ fun a ha => ⟨false, rfl, ha.keep [2] (by kernel_rfl), hI⟩
    ·
     rw [if_neg hb8] at h1
     have hb8 : (decide (y7 < 0)) = false := by simpa using hb8
     refine oK [0, 19] (S' := [(0, .string a0), (19, .bool false)]) (by simp only [hb8]; kernel_rfl) ?_
     refine oP (r := []) [13, 14, 15, 16, 17, 18, 19, 20, 21, 22, 23, 24, 25] (S' := [(2, .bool false)]) (by kernel_rfl) ?_
     refine oD ?_
     have e := someS h1
     subst e
     exact Qn.thenJ fun a ha => ⟨false, rfl, ha.keep [2] (by kernel_rfl), hI⟩
   ·
    rw [if_neg hb5] at h1
    have hb5 : (decide (y2 ≤ 24)) = false := by simpa using hb5
    refine oK [0, 3, 13] (S' := [(0, .string a0), (3, .func (.func 65) #[] #[]), (13, .bool false)]) (by simp only [hb5]; kernel_rfl) ?_
    refine oP (r := []) [7, 8, 9, 10, 11, 12, 13, 14, 15, 16, 17, 18, 19, 20, 21, 22, 23, 24, 25] (S' := [(2, .bool false)]) (by kernel_rfl) ?_
    refine oD ?_
    have e := someS h1
    subst e
    exact Qn.thenJ fun a ha => ⟨false, rfl, ha.keep [2] (by kernel_rfl), hI⟩
  ·
   rw [if_neg hb4] at h1
   have hb4 : (decide (y2 > 0)) = false := by simpa using hb4
   refine oK [0, 3, 4, 9] (S' := [(0, .string a0), (3, .func (.func 65) #[] #[]), (4, iv y2), (9, .bool false)]) (by simp only [hb4]; kernel_rfl) ?_
   refine oP (r := []) [3, 4, 5, 6, 7, 8, 9, 10, 11, 12, 13, 14, 15, 16, 17, 18, 19, 20, 21, 22, 23, 24, 25] (S' := [(2, .bool false)]) (by kernel_rfl) ?_
   refine oD ?_
   have e := someS h1
   subst e
   exact Qn.thenJ fun a ha => ⟨false, rfl, ha.keep [2] (by kernel_rfl), hI⟩
 ·
  rintro a w ⟨x3, rfl, ha, hI⟩
  try dsimp only at h0
  refine CodT.of ?_ ha
  refine CodT.ret ?_
  have e := someS h0
  subst e
  refine qK [2] (S' := [(2, .bool x3)]) (by kernel_rfl) ?_
  exact post_ret (v := .bool x3) (fun a ha => RunRes.run (vs := [.bool x3]) (.tmp (t := 2) (by kernel_rfl) .nil) ha (by kernel_rfl)) ⟨rfl, hI⟩
/-- cenotaph/event.within -/
theorem c50 (w0 w : World) (Z : Hp) (A : HP) (hI : Inv w0 Z w A) (a0 : Int) (a1 : Int) (a2 : Int) (r : Bool) (h0 : event_within a0 a1 a2 = some r) :
  Calls prog 50 #[iv a0, iv a1, iv a2] w (fun e w' => e = .returned (.bool r) ∧ Inv w0 Z w' A) := by
 have e4 := calls_intro (R := (fun e w' => e = .returned (.bool r) ∧ Inv w0 Z w' A)) (w := w) (args := [iv a0, iv a1, iv a2]) (fn := Go.Proofs.Try.f50) 15 Go.Proofs.Try.func50 (by rfl) Go.Proofs.Try.ntmps50 (by kernel_rfl)
 refine e4 ?_
 clear e4
 unfold event_within at h0
 refine cQ ?_
 refine cR [0] (by kernel_rfl) ?_
 refine oP (r := []) [0] (S' := [(0, iv a0), (1, iv a1), (2, iv a2)]) (by kernel_rfl) ?_
 refine oD ?_
 refine qT ?_
 obtain ⟨r1, h1, h0⟩ := bindS h0
 refine CodT.meet (fun a w => ∃ (x1 : Bool), x1 = r1 ∧ Fr 15 [(6, .bool x1)] a ∧ Inv w0 Z w A) ?_ ?_
 ·
  refine cR [0, 1, 2, 3, 4, 5, 6, 7, 8] (by kernel_rfl) ?_
  refine oP (r := [4, 5, 6, 7, 8]) [0, 1, 2, 3] (S' := [(0, iv a0), (2, iv a2), (10, .bool (decide (a1 ≤ a0)))]) (by kernel_rfl) ?_
  by_cases hb2 : (decide (a1 ≤ a0)) = true
  ·
   rw [if_pos hb2] at h1
   refine oK [0, 2, 10] (S' := [(0, iv a0), (2, iv a2), (10, .bool true)]) (by simp only [hb2]; kernel_rfl) ?_
   refine oP (r := []) [4, 5, 6, 7, 8] (S' := [(6, .bool (decide (a0 ≤ a2)))]) (by kernel_rfl) ?_
   refine oD ?_
   have e := someS h1
   subst e
   exact Qn.thenJ fun a ha => ⟨decide (a0 ≤ a2), rfl, ha.keep [6] (by kernel_rfl), hI⟩
  ·
   rw [if_neg hb2] at h1
   have hb2 : (decide (a1 ≤ a0)) = false := by simpa using hb2
   refine oK [0, 2, 10] (S' := [(0, iv a0), (2, iv a2), (10, .bool false)]) (by simp only [hb2]; kernel_rfl) ?_
   refine oP (r := []) [4, 5, 6, 7, 8] (S' := [(6, .bool false)]) (by kernel_rfl) ?_
   refine oD ?_
   have e := someS h1
   subst e
   exact Qn.thenJ fun a ha => ⟨false, rfl, ha.keep [6] (by kernel_rfl), hI⟩
 ·
  rintro a w ⟨x1, rfl, ha, hI⟩
  try dsimp only at h0
  refine CodT.of ?_ ha
  refine CodT.ret ?_
  have e := someS h0
  subst e
  refine qK [6] (S' := [(6, .bool x1)]) (by kernel_rfl) ?_
  exact post_ret (v := .bool x1) (fun a ha => RunRes.run (vs := [.bool x1]) (.tmp (t := 6) (by kernel_rfl) .nil) ha (by kernel_rfl)) ⟨rfl, hI⟩
/-- cenotaph/event.Valid -/
theorem c33 (w0 w : World) (Z : Hp) (A : HP) (hI : Inv w0 Z w A) (a0 : ApiEvent) (hl1 : a0.Sum.length = 32) (r : Bool) (h0 : event_Valid a0 = some r) :
  Calls prog 33 #[.agg (c_ApiEvent a0).toArray] w (fun e w' => e = .returned (.bool r) ∧ Inv w0 Z w' A) := by
 have e4 := calls_intro (R := (fun e w' => e = .returned (.bool r) ∧ Inv w0 Z w' A)) (w := w) (args := [.agg (c_ApiEvent a0).toArray]) (fn := Go.Proofs.Try.f33) 63 Go.Proofs.Try.func33 (by rfl) Go.Proofs.Try.ntmps33 (by kernel_rfl)
 refine e4 ?_
 clear e4
 unfold event_Valid at h0
 refine cQ ?_
 refine cR [0, 1] (by kernel_rfl) ?_
 refine oC (Does.boxL (d := 1) (T := 42) (v := .agg (c_ApiEvent a0).toArray) (c_ApiEvent a0) (by kernel_rfl) hI (by kernel_rfl) ?_)
 intro b2 w hI
 refine oP (r := []) [1] (S' := [(1, pb b2)]) (by kernel_rfl) ?_
 refine oD ?_
 refine qT ?_
 refine cQ ?_
 refine cR [0, 1, 2] (by kernel_rfl) ?_
 refine oC (Does.yi (Yl.load (d := 10) (T := 42) (v := .agg (c_ApiEvent a0).toArray) (by kernel_rfl) (ldBN ty42 (l := c_ApiEvent a0) (o := 0) (cs := c_ApiEvent a0) (ent_refl _) (len_ApiEvent _ hl1) (whole _ _ (len_ApiEvent _ hl1)))) hI ?_)
 obtain ⟨y4, hc3, h0⟩ := bindS h0
 try dsimp only at h0
 refine oC (Does.call (d := some 11) (n := 30) (vs := [.agg (c_ApiEvent a0).toArray]) (by kernel_rfl) en30 (c30 w0 w _ _ hI a0 hl1 _ hc3) ?_)
 rintro e w ⟨A5, cp6, rfl, hI⟩
 refine ⟨_, rfl, ?_⟩
 refine oP (r := []) [2] (S' := [(1, pb b2), (3, .slice A5 y4.length cp6)]) (by kernel_rfl) ?_
 refine oD ?_
 refine qT ?_
 obtain ⟨Z7, hle8, hr9, hI⟩ := ownS_freeze hI
 refine cQ ?_
 obtain ⟨r1, h1, h0⟩ := bindS h0
 refine CodT.meet (fun a w => ∃ (x10 : Bool), x10 = r1 ∧ Fr 63 [(1, pb b2), (3, .slice A5 y4.length cp6), (22, .bool x10)] a ∧ Inv w0 Z7 w (star (pt b2 (.cells (c_ApiEvent a0).toArray 42 (0, 0))) A)) ?_ ?_
 ·
  refine CodT.drawI (n := 11) [] (by kernel_rfl) (by kernel_rfl) hI ?_
  intro w hI
  refine GmT.p' 0 12 (.slice A5 y4.length cp6) (by kernel_rfl) (by kernel_rfl) ?_
  refine GmT.p' 1 13 (iv (y4.length : Int)) (by kernel_rfl) (by kernel_rfl) ?_
  refine GmT.p' 2 14 (.bool ((y4.length : Int) == 0)) (by kernel_rfl) (by kernel_rfl) ?_
  refine GmT.p' 3 15 (.bool ((y4.length : Int) == 0)) (by kernel_rfl) (by kernel_rfl) ?_
  by_cases hb11 : ((y4.length : Int) == 0) = true
  ·
   rw [if_pos hb11] at h1
   refine GmT.keep [1, 3, 15] (S' := [(1, pb b2), (3, .slice A5 y4.length cp6), (15, .bool true)]) (by simp only [hb11]; kernel_rfl) ?_
   refine GmT.p' 4 16 (undef) (by kernel_rfl) (by kernel_rfl) ?_
   refine GmT.p' 5 17 (undef) (by kernel_rfl) (by kernel_rfl) ?_
   refine GmT.p' 6 18 (undef) (by kernel_rfl) (by kernel_rfl) ?_
   refine GmT.p' 7 19 (undef) (by kernel_rfl) (by kernel_rfl) ?_
   refine GmT.p' 8 20 (undef) (by kernel_rfl) (by kernel_rfl) ?_
   refine GmT.p' 9 21 (undef) (by kernel_rfl) (by kernel_rfl) ?_
   refine GmT.p' 10 22 (.bool true) (by kernel_rfl) (by kernel_rfl) ?_
   refine GmT.done (by kernel_rfl) ?_
   have e := someS h1
   subst e
   exact Qn.thenJ fun a ha => ⟨true, rfl, ha.keep [1, 3, 22] (by kernel_rfl), hI⟩
  ·
   rw [if_neg hb11] at h1
   have hb11 : ((y4.length : Int) == 0) = false := by simpa using hb11
   refine GmT.keep [1, 3, 15] (S' := [(1, pb b2), (3, .slice A5 y4.length cp6), (15, .bool false)]) (by simp only [hb11]; kernel_rfl) ?_
   refine GmT.p' 4 16 (pb b2) (by kernel_rfl) (by kernel_rfl) ?_
   refine GmT.p' 6 18 (.slice A5 y4.length cp6) (by kernel_rfl) (by kernel_rfl) ?_
   refine GmT.r (i := 5) 2 (by kernel_rfl) (by kernel_rfl) (Yl.load (d := 17) (T := 40) (v := iv a0.Kind) (by kernel_rfl) (ldB ty40 (l := c_ApiEvent a0) (o := 0) (v := iv a0.Kind) (ent_refl _) (by kernel_rfl))) hI ?_
   refine GmT.r (i := 8) 2 (by kernel_rfl) (by kernel_rfl) (Yl.load (d := 20) (T := 42) (v := .agg (c_ApiEvent a0).toArray) (by kernel_rfl) (ldBN ty42 (l := c_ApiEvent a0) (o := 0) (cs := c_ApiEvent a0) (ent_refl _) (len_ApiEvent _ hl1) (whole _ _ (len_ApiEvent _ hl1)))) hI ?_
   obtain ⟨y13, hc12, h1⟩ := bindS h1
   try dsimp only at h1
   refine GmT.o (i := 7) (by kernel_rfl) (Does.call (d := some 19) (n := 32) (vs := [iv a0.Kind, .slice A5 y4.length cp6]) (by kernel_rfl) en32 (c32 w0 w _ _ hI a0.Kind A5 cp6 y4 hr9 _ hc12) ?_)
   rintro e w ⟨rfl, hl14, hI⟩
   refine ⟨_, rfl, ?_⟩
   refine ⟨fun _ _ => hI, ?_⟩
   refine GmT.r (i := 9) 2 (by kernel_rfl) (by kernel_rfl) (Yl.neqS (d := 21) (T := 42) (xs := ([iv y13.Kind, iv y13.ID, .string y13.Name, iv y13.Time, iv y13.Len] : LV) ++ (cA (Value.int .u8) y13.Sum)) (ys := ([iv a0.Kind, iv a0.ID, .string a0.Name, iv a0.Time, iv a0.Len] : LV) ++ (cA (Value.int .u8) a0.Sum)) (r := eq_ApiEvent y13 a0) (by kernel_rfl) Go.Proofs.Try.underlying42 (by kernel_rfl) (by kernel_rfl) (.cons rfl (part1 (v := iv y13.Kind) ty40 (by kernel_rfl)) (part1 (v := iv a0.Kind) ty40 (by kernel_rfl)) (eqI Go.Proofs.Try.underlying40) (.cons rfl (part1 (v := iv y13.ID) ty3 (by kernel_rfl)) (part1 (v := iv a0.ID) ty3 (by kernel_rfl)) (eqI Go.Proofs.Try.underlying3) (.cons rfl (part1 (v := .string y13.Name) ty9 (by kernel_rfl)) (part1 (v := .string a0.Name) ty9 (by kernel_rfl)) (eqS Go.Proofs.Try.underlying9) (.cons rfl (part1 (v := iv y13.Time) ty3 (by kernel_rfl)) (part1 (v := iv a0.Time) ty3 (by kernel_rfl)) (eqI Go.Proofs.Try.underlying3) (.cons rfl (part1 (v := iv y13.Len) ty3 (by kernel_rfl)) (part1 (v := iv a0.Len) ty3 (by kernel_rfl)) (eqI Go.Proofs.Try.underlying3) (.cons rfl (partN ty29 (tail_take _ _ _ _ _ (by kernel_rfl) hl14)) (partN ty29 (tail_take _ _ _ _ _ (by kernel_rfl) hl1)) (eqAr Go.Proofs.Try.underlying29 Go.Proofs.Try.underlying5 ty5 hl14 hl1) .nil))))))) hI ?_
   refine GmT.p' 10 22 (.bool (!(eq_ApiEvent y13 a0))) (by kernel_rfl) (by kernel_rfl) ?_
   refine GmT.done (by kernel_rfl) ?_
   have e := someS h1
   subst e
   exact Qn.thenJ fun a ha => ⟨!(eq_ApiEvent y13 a0), rfl, ha.keep [1, 3, 22] (by kernel_rfl), hI⟩
 ·
  rintro a w ⟨x10, rfl, ha, hI⟩
  try dsimp only at h0
  refine CodT.of ?_ ha
  by_cases hb15 : x10 = true
  ·
   rw [if_pos hb15] at h0
   refine CodT.yes' (b := x10) (by kernel_rfl) hb15 ?_
   refine cQ ?_
   refine cR [0] (by kernel_rfl) ?_
   refine oP (r := []) [0] (S' := [(2, .bool false)]) (by kernel_rfl) ?_
   refine oD ?_
   refine qT ?_
   refine CodT.ret ?_
   refine Qn.ret_then ?_
   have hI := hI.drop
   have e := someS h0
   subst e
   refine qK [2] (S' := [(2, .bool false)]) (by kernel_rfl) ?_
   exact post_ret (v := .bool false) (fun a ha => RunRes.run (vs := [.bool false]) (.tmp (t := 2) (by kernel_rfl) .nil) ha (by kernel_rfl)) ⟨rfl, hI.weaken hle8⟩
  ·
   rw [if_neg hb15] at h0
   refine CodT.no' (b := x10) (by kernel_rfl) (by simpa using hb15) ?_
   refine CodT.skip ?_
   refine qT ?_
   refine cQ ?_
   refine cR [0] (by kernel_rfl) ?_
   refine oP (r := []) [0] (S' := [(1, pb b2), (3, .slice A5 y4.length cp6), (4, iv 0)]) (by kernel_rfl) ?_
   refine oD ?_
   refine qT ?_
   obtain ⟨r1, h1, h0⟩ := bindS h0
   refine CodT.meet (fun a w => ∃ (x16 : Int), x16 = r1 ∧ Fr 63 [(1, pb b2), (3, .slice A5 y4.length cp6), (4, iv x16)] a ∧ Inv w0 Z7 w (star (pt b2 (.cells (c_ApiEvent a0).toArray 42 (0, 0))) A)) ?_ ?_
   ·
    refine cQ ?_
    refine cR [0, 1, 2] (by kernel_rfl) ?_
    refine oP (r := [1, 2]) [0] (S' := [(1, pb b2), (3, .slice A5 y4.length cp6), (4, iv 0), (23, pb b2)]) (by kernel_rfl) ?_
    refine oC (Does.yi (Yl.load (d := 24) (T := 40) (v := iv a0.Kind) (by kernel_rfl) (ldB ty40 (l := c_ApiEvent a0) (o := 0) (v := iv a0.Kind) (ent_refl _) (by kernel_rfl))) hI ?_)
    refine oP (r := []) [2] (S' := [(1, pb b2), (3, .slice A5 y4.length cp6), (4, iv 0), (25, .bool (a0.Kind == 1))]) (by kernel_rfl) ?_
    refine oD ?_
    refine qT ?_
    by_cases hb17 : (a0.Kind == 1) = true
    ·
     rw [if_pos hb17] at h1
     refine CodT.yes' (b := a0.Kind == 1) (by kernel_rfl) hb17 ?_
     refine cR [0] (by kernel_rfl) ?_
     refine oP (r := []) [0] (S' := [(1, pb b2), (3, .slice A5 y4.length cp6), (4, iv 1)]) (by kernel_rfl) ?_
     refine oD ?_
     have e := someS h1
     subst e
     exact Qn.thenJ fun a ha => ⟨1, rfl, ha.keep [1, 3, 4] (by kernel_rfl), hI⟩
    ·
     rw [if_neg hb17] at h1
     refine CodT.no' (b := a0.Kind == 1) (by kernel_rfl) (by simpa using hb17) ?_
     refine CodT.skip ?_
     have e := someS h1
     subst e
     exact Qn.thenJ fun a ha => ⟨0, rfl, ha.keep [1, 3, 4] (by kernel_rfl), hI⟩
   ·
    rintro a w ⟨x16, rfl, ha, hI⟩
    try dsimp only at h0
    refine CodT.of ?_ ha
    refine cQ ?_
    refine cR [0] (by kernel_rfl) ?_
    refine oP (r := []) [0] (S' := [(1, pb b2), (3, .slice A5 y4.length cp6), (4, iv x16), (5, .bool true)]) (by kernel_rfl) ?_
    refine oD ?_
    refine qT ?_
    refine cQ ?_
    refine cQ ?_
    refine cR [0, 1, 2] (by kernel_rfl) ?_
    refine oP (r := []) [0, 1, 2] (S' := [(1, pb b2), (4, iv x16), (5, .bool true), (26, .slice A5 y4.length cp6), (27, iv (y4.length : Int)), (28, iv 0)]) (by kernel_rfl) ?_
    refine oD ?_
    refine qT ?_
    obtain ⟨r1, h1, h0⟩ := bindS h0
    refine CodT.meet1 (fun a w => ∃ (x18 : Bool), x18 = r1 ∧ Fr 63 [(1, pb b2), (4, iv x16), (5, .bool x18)] a ∧ Inv w0 Z7 w (star (pt b2 (.cells (c_ApiEvent a0).toArray 42 (0, 0))) A)) ?_ ?_
    ·
     refine CodT.block ?_
     refine (fun a ha => wp_loopN (fun k a w => ∃ (x19 : Bool) (x20 : Int), event_Valid.l0 y4 k x19 x20 = some r1 ∧ Fr 63 [(1, pb b2), (4, iv x16), (5, .bool x19), (26, .slice A5 y4.length cp6), (27, iv (y4.length : Int)), (28, iv x20)] a ∧ Inv w0 Z7 w (star (pt b2 (.cells (c_ApiEvent a0).toArray 42 (0, 0))) A)) ?_ FU a w ⟨true, 0, h1, ha.keep [1, 4, 5, 26, 27, 28] (by kernel_rfl), hI⟩)
     clear h1 hI
     rintro k a w ⟨x19, x20, h1, ha, hI⟩
     rcases k with _ | k
     ·
      cases h1
     simp only [event_Valid.l0] at h1
     refine CodT.of ?_ ha
     refine cQ ?_
     refine cR [0] (by kernel_rfl) ?_
     refine oP (r := []) [0] (S' := [(1, pb b2), (4, iv x16), (5, .bool x19), (26, .slice A5 y4.length cp6), (27, iv (y4.length : Int)), (28, iv x20), (29, .bool (decide (x20 < (y4.length : Int))))]) (by kernel_rfl) ?_
     refine oD ?_
     refine qT ?_
     refine cQ ?_
     by_cases hb21 : (decide (x20 < (y4.length : Int))) = true
     ·
      rw [if_pos hb21] at h1
      refine CodT.yes' (b := decide (x20 < (y4.length : Int))) (by kernel_rfl) hb21 ?_
      refine CodT.skip ?_
      refine qT ?_
      obtain ⟨r2, h2, h1⟩ := bindS h1
      refine CodT.meet (fun a w => ∃ (x22 : Bool), x22 = r2 ∧ Fr 63 [(1, pb b2), (4, iv x16), (5, .bool x22), (26, .slice A5 y4.length cp6), (27, iv (y4.length : Int)), (28, iv x20)] a ∧ Inv w0 Z7 w (star (pt b2 (.cells (c_ApiEvent a0).toArray 42 (0, 0))) A)) ?_ ?_
      ·
       refine CodT.block ?_
       refine cQ ?_
       refine cR [0, 1, 2] (by kernel_rfl) ?_
       obtain ⟨hg23, h2⟩ := guardS h2
       obtain ⟨g24, o28, hA25, hr26, hl27⟩ := RdS.get hr9 hg23.1 hg23.2
       refine oC (Does.yi (Yl.indexSlice (d := 30) (T := 63) (cc := cp6) (k := .i64) (j := x20) (g := g24) (o := o28) (by kernel_rfl) Go.Proofs.Try.underlying63 ty66 hA25 hg23.1 hg23.2) hI ?_)
       refine oC (Does.yi (Yl.load (d := 31) (T := 66) (v := dynV66 (gt y4 x20)) (by kernel_rfl) (ldR ty66 (v := dynV66 (gt y4 x20)) 0 (fun w hC => hr26 w0 w _ hC) (by kernel_rfl))) hI ?_)
       refine oP (r := []) [2] (S' := [(1, pb b2), (4, iv x16), (5, .bool x19), (7, dynV66 (gt y4 x20)), (26, .slice A5 y4.length cp6), (27, iv (y4.length : Int)), (28, iv x20)]) (by kernel_rfl) ?_
       refine oD ?_
       refine qT ?_
       refine cQ ?_
       refine cR [0, 1, 2, 3, 4, 5, 6] (by kernel_rfl) ?_
       refine oP (r := [1, 2, 3, 4, 5, 6]) [0] (S' := [(1, pb b2), (4, iv x16), (5, .bool x19), (26, .slice A5 y4.length cp6), (27, iv (y4.length : Int)), (28, iv x20), (33, dynV66 (gt y4 x20))]) (by kernel_rfl) ?_
       rcases hd29 : gt y4 x20 with _ | z30 | z31 | z32
       ·
        simp only [hd29] at h2
        refine oK [1, 4, 5, 26, 27, 28, 33] (S' := [(1, pb b2), (4, iv x16), (5, .bool x19), (26, .slice A5 y4.length cp6), (27, iv (y4.length : Int)), (28, iv x20), (33, .nilIface)]) (by (try simp only [hd29]); kernel_rfl) ?_
        refine oP (r := []) [1, 2, 3, 4, 5, 6] (S' := [(1, pb b2), (4, iv x16), (5, .bool x19), (8, .string (⟨#[]⟩ : ByteArray)), (9, .bool false), (26, .slice A5 y4.length cp6), (27, iv (y4.length : Int)), (28, iv x20)]) (by kernel_rfl) ?_
        refine oD ?_
        refine qT ?_
        refine cQ ?_
        refine cR [0] (by kernel_rfl) ?_
        refine oP (r := []) [0] (S' := [(1, pb b2), (4, iv x16), (5, .bool x19), (8, .string (⟨#[]⟩ : ByteArray)), (26, .slice A5 y4.length cp6), (27, iv (y4.length : Int)), (28, iv x20), (37, .bool false)]) (by kernel_rfl) ?_
        refine oD ?_
        refine qT ?_
        refine CodT.no (by kernel_rfl) ?_
        refine CodT.skip ?_
        refine Qn.block_normal ?_
        have e := someS h2
        subst e
        exact Qn.thenJ fun a ha => ⟨x19, rfl, ha.keep [1, 4, 5, 26, 27, 28] (by kernel_rfl), hI⟩
       ·
        simp only [hd29] at h2
        refine oK [1, 4, 5, 26, 27, 28, 33] (S' := [(1, pb b2), (4, iv x16), (5, .bool x19), (26, .slice A5 y4.length cp6), (27, iv (y4.length : Int)), (28, iv x20), (33, .iface 89 (iv z30))]) (by (try simp only [hd29]); kernel_rfl) ?_
        refine oP (r := []) [1, 2, 3, 4, 5, 6] (S' := [(1, pb b2), (4, iv x16), (5, .bool x19), (8, .string (⟨#[]⟩ : ByteArray)), (9, .bool false), (26, .slice A5 y4.length cp6), (27, iv (y4.length : Int)), (28, iv x20)]) (by kernel_rfl) ?_
        refine oD ?_
        refine qT ?_
        refine cQ ?_
        refine cR [0] (by kernel_rfl) ?_
        refine oP (r := []) [0] (S' := [(1, pb b2), (4, iv x16), (5, .bool x19), (8, .string (⟨#[]⟩ : ByteArray)), (26, .slice A5 y4.length cp6), (27, iv (y4.length : Int)), (28, iv x20), (37, .bool false)]) (by kernel_rfl) ?_
        refine oD ?_
        refine qT ?_
        refine CodT.no (by kernel_rfl) ?_
        refine CodT.skip ?_
        refine Qn.block_normal ?_
        have e := someS h2
        subst e
        exact Qn.thenJ fun a ha => ⟨x19, rfl, ha.keep [1, 4, 5, 26, 27, 28] (by kernel_rfl), hI⟩
       ·
        simp only [hd29] at h2
        refine oK [1, 4, 5, 26, 27, 28, 33] (S' := [(1, pb b2), (4, iv x16), (5, .bool x19), (26, .slice A5 y4.length cp6), (27, iv (y4.length : Int)), (28, iv x20), (33, .iface 90 (.string z31))]) (by (try simp only [hd29]); kernel_rfl) ?_
        refine oP (r := []) [1, 2, 3, 4, 5, 6] (S' := [(1, pb b2), (4, iv x16), (5, .bool x19), (8, .string z31), (9, .bool true), (26, .slice A5 y4.length cp6), (27, iv (y4.length : Int)), (28, iv x20)]) (by kernel_rfl) ?_
        refine oD ?_
        refine qT ?_
        refine cQ ?_
        refine cR [0] (by kernel_rfl) ?_
        refine oP (r := []) [0] (S' := [(1, pb b2), (4, iv x16), (5, .bool x19), (8, .string z31), (26, .slice A5 y4.length cp6), (27, iv (y4.length : Int)), (28, iv x20), (37, .bool true)]) (by kernel_rfl) ?_
        refine oD ?_
        refine qT ?_
        refine CodT.yes (by kernel_rfl) ?_
        refine cR [0, 1, 2] (by kernel_rfl) ?_
        refine oP (r := [1, 2]) [0] (S' := [(1, pb b2), (4, iv x16), (26, .slice A5 y4.length cp6), (27, iv (y4.length : Int)), (28, iv x20), (38, .string z31)]) (by kernel_rfl) ?_
        obtain ⟨y34, hc33, h2⟩ := bindS h2
        try dsimp only at h2
        refine oC (Does.call (d := some 39) (n := 49) (vs := [.string z31]) (by kernel_rfl) en49 (c49 w0 w _ _ hI z31 _ hc33) ?_)
        rintro e w ⟨rfl, hI⟩
        refine ⟨_, rfl, ?_⟩
        refine oP (r := []) [2] (S' := [(1, pb b2), (4, iv x16), (5, .bool y34), (26, .slice A5 y4.length cp6), (27, iv (y4.length : Int)), (28, iv x20)]) (by kernel_rfl) ?_
        refine oD ?_
        refine Qn.block_normal ?_
        have e := someS h2
        subst e
        exact Qn.thenJ fun a ha => ⟨y34, rfl, ha.keep [1, 4, 5, 26, 27, 28] (by kernel_rfl), hI⟩
       ·
        simp only [hd29] at h2
        obtain ⟨hg35, h2⟩ := guardS h2
        refine oK [1, 4, 5, 26, 27, 28, 33] (S' := [(1, pb b2), (4, iv x16), (5, .bool x19), (26, .slice A5 y4.length cp6), (27, iv (y4.length : Int)), (28, iv x20), (33, .iface 91 (.agg (cA (Value.int .u8) z32).toArray))]) (by (try simp only [hd29]); kernel_rfl) ?_
        refine oP (r := []) [1, 2, 3, 4, 5, 6] (S' := [(1, pb b2), (4, iv x16), (5, .bool x19), (8, .string (⟨#[]⟩ : ByteArray)), (9, .bool false), (26, .slice A5 y4.length cp6), (27, iv (y4.length : Int)), (28, iv x20)]) (by kernel_rfl) ?_
        refine oD ?_
        refine qT ?_
        refine cQ ?_
        refine cR [0] (by kernel_rfl) ?_
        refine oP (r := []) [0] (S' := [(1, pb b2), (4, iv x16), (5, .bool x19), (8, .string (⟨#[]⟩ : ByteArray)), (26, .slice A5 y4.length cp6), (27, iv (y4.length : Int)), (28, iv x20), (37, .bool false)]) (by kernel_rfl) ?_
        refine oD ?_
        refine qT ?_
        refine CodT.no (by kernel_rfl) ?_
        refine CodT.skip ?_
        refine Qn.block_normal ?_
        have e := someS h2
        subst e
        exact Qn.thenJ fun a ha => ⟨x19, rfl, ha.keep [1, 4, 5, 26, 27, 28] (by kernel_rfl), hI⟩
      ·
       rintro a w ⟨x22, rfl, ha, hI⟩
       try dsimp only at h1
       refine CodT.of ?_ ha
       refine cR [0, 1] (by kernel_rfl) ?_
       refine oP (r := []) [0, 1] (S' := [(1, pb b2), (4, iv x16), (5, .bool x22), (26, .slice A5 y4.length cp6), (27, iv (y4.length : Int)), (28, iv (wi64 (x20 + 1)))]) (by kernel_rfl) ?_
       refine oD ?_
       exact Qn.thenJ fun a ha => ⟨k, Nat.lt_succ_self k, x22, wi64 (x20 + 1), h1, ha.keep [1, 4, 5, 26, 27, 28] (by kernel_rfl), hI⟩
     ·
      rw [if_neg hb21] at h1
      refine CodT.no' (b := decide (x20 < (y4.length : Int))) (by kernel_rfl) (by simpa using hb21) ?_
      refine CodT.exit ?_
      refine Qn.exit_then ?_
      refine Qn.exit_then ?_
      refine Qn.block ?_
      have e := someS h1
      subst e
      exact Qn.thenJ fun a ha => ⟨x19, rfl, ha.keep [1, 4, 5] (by kernel_rfl), hI⟩
    ·
     rintro a w ⟨x18, rfl, ha, hI⟩
     try dsimp only at h0
     refine Qn.of ?_ ha
     refine qT ?_
     obtain ⟨r1, h1, h0⟩ := bindS h0
     refine CodT.meet (fun a w => ∃ (x36 : Bool), x36 = r1 ∧ Fr 63 [(2, .bool x36)] a ∧ Inv w0 Z7 w A) ?_ ?_
     ·
      refine cR [0, 1, 2, 3, 4, 5, 6, 7, 8, 9, 10, 11, 12, 13, 14, 15, 16, 17, 18, 19, 20, 21, 22] (by kernel_rfl) ?_
      refine oP (r := [2, 3, 4, 5, 6, 7, 8, 9, 10, 11, 12, 13, 14, 15, 16, 17, 18, 19, 20, 21, 22]) [0, 1] (S' := [(1, pb b2), (4, iv x16), (42, .bool x18)]) (by kernel_rfl) ?_
      by_cases hb37 : x18 = true
      ·
       rw [if_pos hb37] at h1
       refine oK [1, 4, 42] (S' := [(1, pb b2), (4, iv x16), (42, .bool true)]) (by simp only [hb37]; kernel_rfl) ?_
       refine oP (r := [3, 4, 5, 6, 7, 8, 9, 10, 11, 12, 13, 14, 15, 16, 17, 18, 19, 20, 21, 22]) [2] (S' := [(1, pb b2), (4, iv x16), (42, .bool true), (43, pb b2)]) (by kernel_rfl) ?_
       refine oC (Does.yi (Yl.load (d := 44) (T := 40) (v := iv a0.Kind) (by kernel_rfl) (ldB ty40 (l := c_ApiEvent a0) (o := 0) (v := iv a0.Kind) (ent_refl _) (by kernel_rfl))) hI ?_)
       refine oP (r := [6, 7, 8, 9, 10, 11, 12, 13, 14, 15, 16, 17, 18, 19, 20, 21, 22]) [4, 5] (S' := [(1, pb b2), (4, iv x16), (42, .bool true), (46, .bool (a0.Kind == 7))]) (by kernel_rfl) ?_
       by_cases hb38 : (a0.Kind == 7) = true
       ·
        rw [if_pos hb38] at h1
        refine oK [1, 4, 42, 46] (S' := [(1, pb b2), (4, iv x16), (42, .bool true), (46, .bool true)]) (by simp only [hb38]; kernel_rfl) ?_
        refine oP (r := [13, 14, 15, 16, 17, 18, 19, 20, 21, 22]) [6, 7, 8, 9, 10, 11, 12] (S' := [(1, pb b2), (4, iv x16), (52, .bool true), (53, .pointer (some ⟨b2, 3, none⟩))]) (by kernel_rfl) ?_
        refine oC (Does.yi (Yl.load (d := 54) (T := 3) (v := iv a0.Time) (by kernel_rfl) (ldB ty3 (l := c_ApiEvent a0) (o := 3) (v := iv a0.Time) (ent_refl _) (by kernel_rfl))) hI ?_)
        obtain ⟨y40, hc39, h1⟩ := bindS h1
        try dsimp only at h1
        refine oC (Does.call (d := some 55) (n := 50) (vs := [iv a0.Time, iv 0, iv 1099511627776]) (by kernel_rfl) en50 (c50 w0 w _ _ hI a0.Time 0 1099511627776 _ hc39) ?_)
        rintro e w ⟨rfl, hI⟩
        refine ⟨_, rfl, ?_⟩
        refine oP (r := [17, 18, 19, 20, 21, 22]) [15, 16] (S' := [(1, pb b2), (4, iv x16), (57, .bool y40)]) (by kernel_rfl) ?_
        by_cases hb41 : y40 = true
        ·
         rw [if_pos hb41] at h1
         refine oK [1, 4, 57] (S' := [(1, pb b2), (4, iv x16), (57, .bool true)]) (by simp only [hb41]; kernel_rfl) ?_
         refine oP (r := [18, 19, 20, 21, 22]) [17] (S' := [(4, iv x16), (57, .bool true), (58, .pointer (some ⟨b2, 4, none⟩))]) (by kernel_rfl) ?_
         refine oC (Does.yi (Yl.load (d := 59) (T := 3) (v := iv a0.Len) (by kernel_rfl) (ldB ty3 (l := c_ApiEvent a0) (o := 4) (v := iv a0.Len) (ent_refl _) (by kernel_rfl))) hI ?_)
         refine oP (r := [20, 21, 22]) [19] (S' := [(57, .bool true), (59, iv a0.Len), (60, iv x16)]) (by kernel_rfl) ?_
         obtain ⟨y43, hc42, h1⟩ := bindS h1
         try dsimp only at h1
         refine oC (Does.call (d := some 61) (n := 50) (vs := [iv a0.Len, iv x16, iv 600]) (by kernel_rfl) en50 (c50 w0 w _ _ hI a0.Len x16 600 _ hc42) ?_)
         rintro e w ⟨rfl, hI⟩
         refine ⟨_, rfl, ?_⟩
         refine oP (r := []) [21, 22] (S' := [(2, .bool y43)]) (by kernel_rfl) ?_
         refine oD ?_
         have hI := hI.drop
         have e := someS h1
         subst e
         exact Qn.thenJ fun a ha => ⟨y43, rfl, ha.keep [2] (by kernel_rfl), hI⟩
        ·
         rw [if_neg hb41] at h1
         have hb41 : y40 = false := by simpa using hb41
         refine oK [1, 4, 57] (S' := [(1, pb b2), (4, iv x16), (57, .bool false)]) (by simp only [hb41]; kernel_rfl) ?_
         refine oP (r := []) [17, 18, 19, 20, 21, 22] (S' := [(2, .bool false)]) (by kernel_rfl) ?_
         refine oD ?_
         have hI := hI.drop
         have e := someS h1
         subst e
         exact Qn.thenJ fun a ha => ⟨false, rfl, ha.keep [2] (by kernel_rfl), hI⟩
       ·
        rw [if_neg hb38] at h1
        have hb38 : (a0.Kind == 7) = false := by simpa using hb38
        refine oK [1, 4, 42, 46] (S' := [(1, pb b2), (4, iv x16), (42, .bool true), (46, .bool false)]) (by simp only [hb38]; kernel_rfl) ?_
        refine oP (r := [7, 8, 9, 10, 11, 12, 13, 14, 15, 16, 17, 18, 19, 20, 21, 22]) [6] (S' := [(1, pb b2), (4, iv x16), (42, .bool true), (46, .bool false), (47, .pointer (some ⟨b2, 1, none⟩))]) (by kernel_rfl) ?_
        refine oC (Does.yi (Yl.load (d := 48) (T := 3) (v := iv a0.ID) (by kernel_rfl) (ldB ty3 (l := c_ApiEvent a0) (o := 1) (v := iv a0.ID) (ent_refl _) (by kernel_rfl))) hI ?_)
        obtain ⟨y45, hc44, h1⟩ := bindS h1
        try dsimp only at h1
        refine oC (Does.call (d := some 49) (n := 50) (vs := [iv a0.ID, iv 1, iv 1099511627776]) (by kernel_rfl) en50 (c50 w0 w _ _ hI a0.ID 1 1099511627776 _ hc44) ?_)
        rintro e w ⟨rfl, hI⟩
        refine ⟨_, rfl, ?_⟩
        refine oP (r := [12, 13, 14, 15, 16, 17, 18, 19, 20, 21, 22]) [9, 10, 11] (S' := [(1, pb b2), (4, iv x16), (52, .bool y45)]) (by kernel_rfl) ?_
        by_cases hb46 : y45 = true
        ·
         rw [if_pos hb46] at h1
         refine oK [1, 4, 52] (S' := [(1, pb b2), (4, iv x16), (52, .bool true)]) (by simp only [hb46]; kernel_rfl) ?_
         refine oP (r := [13, 14, 15, 16, 17, 18, 19, 20, 21, 22]) [12] (S' := [(1, pb b2), (4, iv x16), (52, .bool true), (53, .pointer (some ⟨b2, 3, none⟩))]) (by kernel_rfl) ?_
         refine oC (Does.yi (Yl.load (d := 54) (T := 3) (v := iv a0.Time) (by kernel_rfl) (ldB ty3 (l := c_ApiEvent a0) (o := 3) (v := iv a0.Time) (ent_refl _) (by kernel_rfl))) hI ?_)
         obtain ⟨y48, hc47, h1⟩ := bindS h1
         try dsimp only at h1
         refine oC (Does.call (d := some 55) (n := 50) (vs := [iv a0.Time, iv 0, iv 1099511627776]) (by kernel_rfl) en50 (c50 w0 w _ _ hI a0.Time 0 1099511627776 _ hc47) ?_)
         rintro e w ⟨rfl, hI⟩
         refine ⟨_, rfl, ?_⟩
         refine oP (r := [17, 18, 19, 20, 21, 22]) [15, 16] (S' := [(1, pb b2), (4, iv x16), (57, .bool y48)]) (by kernel_rfl) ?_
         by_cases hb49 : y48 = true
         ·
          rw [if_pos hb49] at h1
          refine oK [1, 4, 57] (S' := [(1, pb b2), (4, iv x16), (57, .bool true)]) (by simp only [hb49]; kernel_rfl) ?_
          refine oP (r := [18, 19, 20, 21, 22]) [17] (S' := [(4, iv x16), (57, .bool true), (58, .pointer (some ⟨b2, 4, none⟩))]) (by kernel_rfl) ?_
          refine oC (Does.yi (Yl.load (d := 59) (T := 3) (v := iv a0.Len) (by kernel_rfl) (ldB ty3 (l := c_ApiEvent a0) (o := 4) (v := iv a0.Len) (ent_refl _) (by kernel_rfl))) hI ?_)
          refine oP (r := [20, 21, 22]) [19] (S' := [(57, .bool true), (59, iv a0.Len), (60, iv x16)]) (by kernel_rfl) ?_
          obtain ⟨y51, hc50, h1⟩ := bindS h1
          try dsimp only at h1
          refine oC (Does.call (d := some 61) (n := 50) (vs := [iv a0.Len, iv x16, iv 600]) (by kernel_rfl) en50 (c50 w0 w _ _ hI a0.Len x16 600 _ hc50) ?_)
          rintro e w ⟨rfl, hI⟩
          refine ⟨_, rfl, ?_⟩
          refine oP (r := []) [21, 22] (S' := [(2, .bool y51)]) (by kernel_rfl) ?_
          refine oD ?_
          have hI := hI.drop
          have e := someS h1
          subst e
          exact Qn.thenJ fun a ha => ⟨y51, rfl, ha.keep [2] (by kernel_rfl), hI⟩
         ·
          rw [if_neg hb49] at h1
          have hb49 : y48 = false := by simpa using hb49
          refine oK [1, 4, 57] (S' := [(1, pb b2), (4, iv x16), (57, .bool false)]) (by simp only [hb49]; kernel_rfl) ?_
          refine oP (r := []) [17, 18, 19, 20, 21, 22] (S' := [(2, .bool false)]) (by kernel_rfl) ?_
          refine oD ?_
          have hI := hI.drop
          have e := someS h1
          subst e
          exact Qn.thenJ fun a ha => ⟨false, rfl, ha.keep [2] (by kernel_rfl), hI⟩
        ·
         rw [if_neg hb46] at h1
         have hb46 : y45 = false := by simpa using hb46
         refine oK [1, 4, 52] (S' := [(1, pb b2), (4, iv x16), (52, .bool false)]) (by simp only [hb46]; kernel_rfl) ?_
         refine oP (r := []) [12, 13, 14, 15, 16, 17, 18, 19, 20, 21, 22] (S' := [(2, .bool false)]) (by kernel_rfl) ?_
         refine oD ?_
         have hI := hI.drop
         have e := someS h1
         subst e
         exact Qn.thenJ fun a ha => ⟨false, rfl, ha.keep [2] (by kernel_rfl), hI⟩
      ·
       rw [if_neg hb37] at h1
       have hb37 : x18 = false := by simpa using hb37
       refine oK [1, 4, 42] (S' := [(1, pb b2), (4, iv x16), (42, .bool false)]) (by simp only [hb37]; kernel_rfl) ?_
       refine oP (r := []) [2, 3, 4, 5, 6, 7, 8, 9, 10, 11, 12, 13, 14, 15, 16, 17, 18, 19, 20, 21, 22] (S' := [(2, .bool false)]) (by kernel_rfl) ?_
       refine oD ?_
       have hI := hI.drop
       have e := someS h1
       subst e
       exact Qn.thenJ fun a ha => ⟨false, rfl, ha.keep [2] (by kernel_rfl), hI⟩
     ·
      rintro a w ⟨x36, rfl, ha, hI⟩
      try dsimp only at h0
      refine CodT.of ?_ ha
      refine CodT.ret ?_
      have e := someS h0
      subst e
      refine qK [2] (S' := [(2, .bool x36)]) (by kernel_rfl) ?_
      exact post_ret (v := .bool x36) (fun a ha => RunRes.run (vs := [.bool x36]) (.tmp (t := 2) (by kernel_rfl) .nil) ha (by kernel_rfl)) ⟨rfl, hI.weaken hle8⟩
/-- cenotaph/wire.Num -/
theorem c51 (w0 w : World) (Z : Hp) (A : HP) (hI : Inv w0 Z w A) (a0 : Int) (r : ByteArray) (h0 : wire_Num a0 = some r) :
  Calls prog 51 #[iv a0] w (fun e w' => e = .returned (.string r) ∧ Inv w0 Z w' A) := by
 have e4 := calls_intro (R := (fun e w' => e = .returned (.string r) ∧ Inv w0 Z w' A)) (w := w) (args := [iv a0]) (fn := Go.Proofs.Try.f51) 23 Go.Proofs.Try.func51 (by rfl) Go.Proofs.Try.ntmps51 (by kernel_rfl)
 refine e4 ?_
 clear e4
 unfold wire_Num at h0
 refine cQ ?_
 refine cR [0] (by kernel_rfl) ?_
 refine oP (r := []) [0] (S' := [(0, iv a0)]) (by kernel_rfl) ?_
 refine oD ?_
 refine qT ?_
 refine cQ ?_
 refine cR [0] (by kernel_rfl) ?_
 refine oP (r := []) [0] (S' := [(0, iv a0), (3, .slice none 0 0)]) (by kernel_rfl) ?_
 refine oD ?_
 refine qT ?_
 refine cQ ?_
 refine cQ ?_
 refine cR [0, 1, 2, 3] (by kernel_rfl) ?_
 refine oP (r := []) [0, 1, 2, 3] (S' := [(0, iv (if 1125899906842624 < (if 0 > a0 then 0 else a0) then 1125899906842624 else if 0 > a0 then 0 else a0)), (3, .slice none 0 0)]) (by kernel_rfl) ?_
 refine oD ?_
 refine qT ?_
 obtain ⟨r1, h1, h0⟩ := bindS h0
 refine CodT.meet1 (fun a w => ∃ (x1 : Int) (x2 : (List Int)) (A3 : Option Addr) (cp4 : Nat), (x1, x2) = r1 ∧ Fr 23 [(0, iv x1), (3, .slice A3 x2.length cp4)] a ∧ Inv w0 Z w (star (ownS 5 (cI .u8) 1 A3 cp4 x2) A)) ?_ ?_
 ·
  refine CodT.block ?_
  have hI := ownS_nil (α := Int) hI 5 (cI .u8) 1
  refine (fun a ha => wp_loopN (fun k a w => ∃ (x5 : Int) (x6 : (List Int)) (A7 : Option Addr) (cp8 : Nat), wire_Num.l0 k x5 x6 = some r1 ∧ Fr 23 [(0, iv x5), (3, .slice A7 x6.length cp8)] a ∧ Inv w0 Z w (star (ownS 5 (cI .u8) 1 A7 cp8 x6) A)) ?_ FU a w ⟨if 1125899906842624 < (if 0 > a0 then 0 else a0) then 1125899906842624 else if 0 > a0 then 0 else a0, ([] : List Int), none, 0, h1, ha.keep [0, 3] (by kernel_rfl), hI⟩)
  clear h1 hI
  rintro k a w ⟨x5, x6, A7, cp8, h1, ha, hI⟩
  rcases k with _ | k
  ·
   cases h1
  simp only [wire_Num.l0] at h1
  refine CodT.of ?_ ha
  refine cQ ?_
  refine cQ ?_
  refine cR [0, 1] (by kernel_rfl) ?_
  refine oP (r := []) [0, 1] (S' := [(0, iv x5), (3, .slice A7 x6.length cp8), (8, .bool (decide (x5 ≥ 128)))]) (by kernel_rfl) ?_
  refine oD ?_
  refine qT ?_
  by_cases hb9 : (decide (x5 ≥ 128)) = true
  ·
   rw [if_pos hb9] at h1
   refine CodT.yes' (b := decide (x5 ≥ 128)) (by kernel_rfl) hb9 ?_
   refine CodT.skip ?_
   refine qT ?_
   refine cQ ?_
   refine CodT.block ?_
   refine cR [0, 1, 2, 3, 4, 5, 6] (by kernel_rfl) ?_
   refine oP (r := [4, 5, 6]) [0, 1, 2, 3] (S' := [(0, iv x5), (11, .slice A7 x6.length cp8), (14, .int .u8 (bOr .u8 (wu8 x5) 128))]) (by kernel_rfl) ?_
   refine oC (Does.buildSlice (en := (cI .u8)) (d := 15) (n := 1) (T := 45) (ps := [(0, .int .u8 (bOr .u8 (wu8 x5) 128))]) ([bOr .u8 (wu8 x5) 128] : List Int) (by kernel_rfl) Go.Proofs.Try.underlying45 ty5 (by kernel_rfl) (by kernel_rfl) (by kernel_rfl) (by kernel_rfl) (len_all (fun _ => rfl)) hI ?_)
   intro b10 w hI
   obtain ⟨hg11, h1⟩ := guardS h1
   have hI := hI.mono (pick2 _ _ _)
   refine oC (Does.append (d := 16) (t := 45) (tx := 45) (ty := 45) (ys := x6) (zs := ([bOr .u8 (wu8 x5) 128] : List Int)) (x := .slice (some ⟨b10, 0, none⟩) (([bOr .u8 (wu8 x5) 128] : List Int).length) 1) (by kernel_rfl) Go.Proofs.Try.underlying45 ty5 (by kernel_rfl) hI (src_own Go.Proofs.Try.underlying45 (hI.mono (pick2 _ _ _)) (one_flat _ (fun _ => rfl))) (ownS_facts (hI.mono (pick2 _ _ _))).2.2 (by unfold LIM at hg11; omega) hg11 ?_)
   intro A12 cp13 w hI
   refine oP (r := []) [6] (S' := [(0, iv x5), (3, .slice A12 ((x6 ++ ([bOr .u8 (wu8 x5) 128] : List Int)).length) cp13)]) (by kernel_rfl) ?_
   refine oD ?_
   refine Qn.block_normal ?_
   refine qT ?_
   refine cR [0, 1, 2] (by kernel_rfl) ?_
   refine oP (r := []) [0, 1, 2] (S' := [(0, iv (bShr .i64 x5 7)), (3, .slice A12 ((x6 ++ ([bOr .u8 (wu8 x5) 128] : List Int)).length) cp13)]) (by kernel_rfl) ?_
   refine oD ?_
   have hI := hI.mono (pick2 _ _ _)
   have hI := hI.drop
   exact Qn.thenJ fun a ha => ⟨k, Nat.lt_succ_self k, bShr .i64 x5 7, x6 ++ ([bOr .u8 (wu8 x5) 128] : List Int), A12, cp13, h1, ha.keep [0, 3] (by kernel_rfl), hI⟩
  ·
   rw [if_neg hb9] at h1
   refine CodT.no' (b := decide (x5 ≥ 128)) (by kernel_rfl) (by simpa using hb9) ?_
   refine CodT.exit ?_
   refine Qn.exit_then ?_
   refine Qn.exit_then ?_
   refine Qn.block ?_
   have e := someS h1
   subst e
   exact Qn.thenJ fun a ha => ⟨x5, x6, A7, cp8, rfl, ha.keep [0, 3] (by kernel_rfl), hI⟩
 ·
  rintro a w ⟨x1, x2, A3, cp4, rfl, ha, hI⟩
  try dsimp only at h0
  refine Qn.of ?_ ha
  refine qT ?_
  refine cQ ?_
  refine cR [0, 1, 2, 3, 4, 5, 6] (by kernel_rfl) ?_
  refine oP (r := [3, 4, 5, 6]) [0, 1, 2] (S' := [(17, .slice A3 x2.length cp4), (19, .int .u8 (wu8 x1))]) (by kernel_rfl) ?_
  refine oC (Does.buildSlice (en := (cI .u8)) (d := 20) (n := 1) (T := 45) (ps := [(0, .int .u8 (wu8 x1))]) ([wu8 x1] : List Int) (by kernel_rfl) Go.Proofs.Try.underlying45 ty5 (by kernel_rfl) (by kernel_rfl) (by kernel_rfl) (by kernel_rfl) (len_all (fun _ => rfl)) hI ?_)
  intro b14 w hI
  obtain ⟨hg15, h0⟩ := guardS h0
  have hI := hI.mono (pick2 _ _ _)
  refine oC (Does.append (d := 21) (t := 45) (tx := 45) (ty := 45) (ys := x2) (zs := ([wu8 x1] : List Int)) (x := .slice (some ⟨b14, 0, none⟩) (([wu8 x1] : List Int).length) 1) (by kernel_rfl) Go.Proofs.Try.underlying45 ty5 (by kernel_rfl) hI (src_own Go.Proofs.Try.underlying45 (hI.mono (pick2 _ _ _)) (one_flat _ (fun _ => rfl))) (ownS_facts (hI.mono (pick2 _ _ _))).2.2 (by unfold LIM at hg15; omega) hg15 ?_)
  intro A16 cp17 w hI
  refine oC (Does.b2sOwn (d := 22) (src := 45) (dst := 9) (xs := x2 ++ ([wu8 x1] : List Int)) (by kernel_rfl) Go.Proofs.Try.underlying45 Go.Proofs.Try.underlying5 Go.Proofs.Try.underlying9 hI ?_)
  refine oP (r := []) [6] (S' := [(2, .string (strOfNums (x2 ++ ([wu8 x1] : List Int))))]) (by kernel_rfl) ?_
  refine oD ?_
  refine qT ?_
  refine CodT.ret ?_
  have hI := hI.drop
  have hI := hI.drop
  have e := someS h0
  subst e
  refine qK [2] (S' := [(2, .string (strOfNums (x2 ++ ([wu8 x1] : List Int))))]) (by kernel_rfl) ?_
  exact post_ret (v := .string (strOfNums (x2 ++ ([wu8 x1] : List Int)))) (fun a ha => RunRes.run (vs := [.string (strOfNums (x2 ++ ([wu8 x1] : List Int)))]) (.tmp (t := 2) (by kernel_rfl) .nil) ha (by kernel_rfl)) ⟨rfl, hI⟩
/-- (cenotaph/event.number).put -/
theorem c94 (w0 w : World) (Z : Hp) (A : HP) (hI : Inv w0 Z w A) (a0 : Int) (r : ByteArray) (h0 : event_number_put a0 = some r) :
  Calls prog 94 #[iv a0] w (fun e w' => e = .returned (.string r) ∧ Inv w0 Z w' A) := by
 have e4 := calls_intro (R := (fun e w' => e = .returned (.string r) ∧ Inv w0 Z w' A)) (w := w) (args := [iv a0]) (fn := Go.Proofs.Try.f94) 5 Go.Proofs.Try.func94 (by rfl) Go.Proofs.Try.ntmps94 (by kernel_rfl)
 refine e4 ?_
 clear e4
 unfold event_number_put at h0
 refine cQ ?_
 refine cR [0] (by kernel_rfl) ?_
 refine oP (r := []) [0] (S' := [(0, iv a0)]) (by kernel_rfl) ?_
 refine oD ?_
 refine qT ?_
 refine cQ ?_
 refine cR [0, 1, 2] (by kernel_rfl) ?_
 refine oP (r := [1, 2]) [0] (S' := [(3, iv a0)]) (by kernel_rfl) ?_
 obtain ⟨y2, hc1, h0⟩ := bindS h0
 try dsimp only at h0
 refine oC (Does.call (d := some 4) (n := 51) (vs := [iv a0]) (by kernel_rfl) en51 (c51 w0 w _ _ hI a0 _ hc1) ?_)
 rintro e w ⟨rfl, hI⟩
 refine ⟨_, rfl, ?_⟩
 refine oP (r := []) [2] (S' := [(2, .string y2)]) (by kernel_rfl) ?_
 refine oD ?_
 refine qT ?_
 refine CodT.ret ?_
 have e := someS h0
 subst e
 refine qK [2] (S' := [(2, .string y2)]) (by kernel_rfl) ?_
 exact post_ret (v := .string y2) (fun a ha => RunRes.run (vs := [.string y2]) (.tmp (t := 2) (by kernel_rfl) .nil) ha (by kernel_rfl)) ⟨rfl, hI⟩
/-- cenotaph/wire.Text -/
theorem c98 (w0 w : World) (Z : Hp) (A : HP) (hI : Inv w0 Z w A) (a0 : ByteArray) (r : ByteArray) (h0 : wire_Text a0 = some r) :
  Calls prog 98 #[.string a0] w (fun e w' => e = .returned (.string r) ∧ Inv w0 Z w' A) := by
 have e4 := calls_intro (R := (fun e w' => e = .returned (.string r) ∧ Inv w0 Z w' A)) (w := w) (args := [.string a0]) (fn := Go.Proofs.Try.f98) 8 Go.Proofs.Try.func98 (by rfl) Go.Proofs.Try.ntmps98 (by kernel_rfl)
 refine e4 ?_
 clear e4
 unfold wire_Text at h0
 refine cQ ?_
 refine cR [0] (by kernel_rfl) ?_
 refine oP (r := []) [0] (S' := [(0, .string a0)]) (by kernel_rfl) ?_
 refine oD ?_
 refine qT ?_
 refine cQ ?_
 refine cR [0, 1, 2, 3, 4, 5] (by kernel_rfl) ?_
 refine oP (r := [2, 3, 4, 5]) [0, 1] (S' := [(0, .string a0), (4, iv (a0.size : Int))]) (by kernel_rfl) ?_
 obtain ⟨y2, hc1, h0⟩ := bindS h0
 try dsimp only at h0
 refine oC (Does.call (d := some 5) (n := 51) (vs := [iv (a0.size : Int)]) (by kernel_rfl) en51 (c51 w0 w _ _ hI (a0.size : Int) _ hc1) ?_)
 rintro e w ⟨rfl, hI⟩
 refine ⟨_, rfl, ?_⟩
 refine oP (r := [4, 5]) [3] (S' := [(5, .string y2), (6, .string a0)]) (by kernel_rfl) ?_
 obtain ⟨hg3, h0⟩ := guardS h0
 refine oC (Does.yi (Yl.cat (d := 7) (T := 9) (x := y2) (y := a0) (by kernel_rfl) hg3) hI ?_)
 refine oP (r := []) [5] (S' := [(2, .string (y2 ++ a0))]) (by kernel_rfl) ?_
 refine oD ?_
 refine qT ?_
 refine CodT.ret ?_
 have e := someS h0
 subst e
 refine qK [2] (S' := [(2, .string (y2 ++ a0))]) (by kernel_rfl) ?_
 exact post_ret (v := .string (y2 ++ a0)) (fun a ha => RunRes.run (vs := [.string (y2 ++ a0)]) (.tmp (t := 2) (by kernel_rfl) .nil) ha (by kernel_rfl)) ⟨rfl, hI⟩
/-- (cenotaph/event.text).put -/
theorem c96 (w0 w : World) (Z : Hp) (A : HP) (hI : Inv w0 Z w A) (a0 : ByteArray) (r : ByteArray) (h0 : event_text_put a0 = some r) :
  Calls prog 96 #[.string a0] w (fun e w' => e = .returned (.string r) ∧ Inv w0 Z w' A) := by
 have e4 := calls_intro (R := (fun e w' => e = .returned (.string r) ∧ Inv w0 Z w' A)) (w := w) (args := [.string a0]) (fn := Go.Proofs.Try.f96) 5 Go.Proofs.Try.func96 (by rfl) Go.Proofs.Try.ntmps96 (by kernel_rfl)
 refine e4 ?_
 clear e4
 unfold event_text_put at h0
 refine cQ ?_
 refine cR [0] (by kernel_rfl) ?_
 refine oP (r := []) [0] (S' := [(0, .string a0)]) (by kernel_rfl) ?_
 refine oD ?_
 refine qT ?_
 refine cQ ?_
 refine cR [0, 1, 2] (by kernel_rfl) ?_
 refine oP (r := [1, 2]) [0] (S' := [(3, .string a0)]) (by kernel_rfl) ?_
 obtain ⟨y2, hc1, h0⟩ := bindS h0
 try dsimp only at h0
 refine oC (Does.call (d := some 4) (n := 98) (vs := [.string a0]) (by kernel_rfl) en98 (c98 w0 w _ _ hI a0 _ hc1) ?_)
 rintro e w ⟨rfl, hI⟩
 refine ⟨_, rfl, ?_⟩
 refine oP (r := []) [2] (S' := [(2, .string y2)]) (by kernel_rfl) ?_
 refine oD ?_
 refine qT ?_
 refine CodT.ret ?_
 have e := someS h0
 subst e
 refine qK [2] (S' := [(2, .string y2)]) (by kernel_rfl) ?_
 exact post_ret (v := .string y2) (fun a ha => RunRes.run (vs := [.string y2]) (.tmp (t := 2) (by kernel_rfl) .nil) ha (by kernel_rfl)) ⟨rfl, hI⟩
/-- cenotaph/wire.Sum -/
theorem c101 (w0 w : World) (Z : Hp) (A : HP) (hI : Inv w0 Z w A) (a0 : (List Int)) (hl_a0 : a0.length = 32) (r : ByteArray) (h0 : wire_Sum a0 = some r) :
  Calls prog 101 #[.agg (cA (Value.int .u8) a0).toArray] w (fun e w' => e = .returned (.string r) ∧ Inv w0 Z w' A) := by
 have e4 := calls_intro (R := (fun e w' => e = .returned (.string r) ∧ Inv w0 Z w' A)) (w := w) (args := [.agg (cA (Value.int .u8) a0).toArray]) (fn := Go.Proofs.Try.f101) 5 Go.Proofs.Try.func101 (by rfl) Go.Proofs.Try.ntmps101 (by kernel_rfl)
 refine e4 ?_
 clear e4
 unfold wire_Sum at h0
 refine cQ ?_
 refine cR [0, 1] (by kernel_rfl) ?_
 refine oC (Does.boxL (d := 1) (T := 29) (v := .agg (cA (Value.int .u8) a0).toArray) (cA (Value.int .u8) a0) (by kernel_rfl) hI (by kernel_rfl) ?_)
 intro b1 w hI
 refine oP (r := []) [1] (S' := [(1, pb b1)]) (by kernel_rfl) ?_
 refine oD ?_
 refine qT ?_
 refine cQ ?_
 refine cR [0, 1, 2] (by kernel_rfl) ?_
 refine oP (r := [1, 2]) [0] (S' := [(3, .slice (some ⟨b1, 0, none⟩) 32 32)]) (by kernel_rfl) ?_
 refine oC (Does.yi (Yl.b2sV (d := 4) (src := 45) (dst := 9) (g := b1) (o := 0) (c := 32) (n := 32) (xs := a0) (by kernel_rfl) Go.Proofs.Try.underlying45 Go.Proofs.Try.underlying5 Go.Proofs.Try.underlying9 hl_a0 (fun w hC => range_at (hC.mono (ent_refl _)).block (fun j v hv => by simpa using hv))) hI ?_)
 refine oP (r := []) [2] (S' := [(2, .string (strOfNums a0))]) (by kernel_rfl) ?_
 refine oD ?_
 refine qT ?_
 refine CodT.ret ?_
 have hI := hI.drop
 have e := someS h0
 subst e
 refine qK [2] (S' := [(2, .string (strOfNums a0))]) (by kernel_rfl) ?_
 exact post_ret (v := .string (strOfNums a0)) (fun a ha => RunRes.run (vs := [.string (strOfNums a0)]) (.tmp (t := 2) (by kernel_rfl) .nil) ha (by kernel_rfl)) ⟨rfl, hI⟩
/-- (cenotaph/event.sum).put -/
theorem c99 (w0 w : World) (Z : Hp) (A : HP) (hI : Inv w0 Z w A) (a0 : (List Int)) (hl_a0 : a0.length = 32) (r : ByteArray) (h0 : event_sum_put a0 = some r) :
  Calls prog 99 #[.agg (cA (Value.int .u8) a0).toArray] w (fun e w' => e = .returned (.string r) ∧ Inv w0 Z w' A) := by
 have e4 := calls_intro (R := (fun e w' => e = .returned (.string r) ∧ Inv w0 Z w' A)) (w := w) (args := [.agg (cA (Value.int .u8) a0).toArray]) (fn := Go.Proofs.Try.f99) 5 Go.Proofs.Try.func99 (by rfl) Go.Proofs.Try.ntmps99 (by kernel_rfl)
 refine e4 ?_
 clear e4
 unfold event_sum_put at h0
 refine cQ ?_
 refine cR [0, 1] (by kernel_rfl) ?_
 refine oC (Does.boxL (d := 1) (T := 91) (v := .agg (cA (Value.int .u8) a0).toArray) (cA (Value.int .u8) a0) (by kernel_rfl) hI (by kernel_rfl) ?_)
 intro b1 w hI
 refine oP (r := []) [1] (S' := [(1, pb b1)]) (by kernel_rfl) ?_
 refine oD ?_
 refine qT ?_
 refine cQ ?_
 refine cR [0, 1, 2] (by kernel_rfl) ?_
 refine oC (Does.yi (Yl.load (d := 3) (T := 91) (v := .agg (cA (Value.int .u8) a0).toArray) (by kernel_rfl) (ldBN ty91 (l := cA (Value.int .u8) a0) (o := 0) (cs := cA (Value.int .u8) a0) (ent_refl _) ((cA_length _ _).trans hl_a0) (whole _ _ ((cA_length _ _).trans hl_a0)))) hI ?_)
 obtain ⟨y3, hc2, h0⟩ := bindS h0
 try dsimp only at h0
 refine oC (Does.call (d := some 4) (n := 101) (vs := [.agg (cA (Value.int .u8) a0).toArray]) (by kernel_rfl) en101 (c101 w0 w _ _ hI a0 hl_a0 _ hc2) ?_)
 rintro e w ⟨rfl, hI⟩
 refine ⟨_, rfl, ?_⟩
 refine oP (r := []) [2] (S' := [(2, .string y3)]) (by kernel_rfl) ?_
 refine oD ?_
 refine qT ?_
 refine CodT.ret ?_
 have hI := hI.drop
 have e := someS h0
 subst e
 refine qK [2] (S' := [(2, .string y3)]) (by kernel_rfl) ?_
 exact post_ret (v := .string y3) (fun a ha => RunRes.run (vs := [.string y3]) (.tmp (t := 2) (by kernel_rfl) .nil) ha (by kernel_rfl)) ⟨rfl, hI⟩
/-- cenotaph/event.Put -/
theorem c34 (w0 w : World) (Z : Hp) (A : HP) (hI : Inv w0 Z w A) (a0 : ApiEvent) (hl1 : a0.Sum.length = 32) (r : (ByteArray × Bool)) (h0 : event_Put a0 = some r) :
  Calls prog 34 #[.agg (c_ApiEvent a0).toArray] w (fun e w' => e = .returned (.tuple #[.string r.1, .bool r.2]) ∧ Inv w0 Z w' A) := by
 have e4 := calls_intro (R := (fun e w' => e = .returned (.tuple #[.string r.1, .bool r.2]) ∧ Inv w0 Z w' A)) (w := w) (args := [.agg (c_ApiEvent a0).toArray]) (fn := Go.Proofs.Try.f34) 26 Go.Proofs.Try.func34 (by rfl) Go.Proofs.Try.ntmps34 (by kernel_rfl)
 refine e4 ?_
 clear e4
 unfold event_Put at h0
 refine cQ ?_
 refine cR [0, 1, 2] (by kernel_rfl) ?_
 refine oC (Does.boxL (d := 1) (T := 42) (v := .agg (c_ApiEvent a0).toArray) (c_ApiEvent a0) (by kernel_rfl) hI (by kernel_rfl) ?_)
 intro b2 w hI
 refine oP (r := []) [1, 2] (S' := [(1, pb b2)]) (by kernel_rfl) ?_
 refine oD ?_
 refine qT ?_
 refine cQ ?_
 refine cQ ?_
 refine cR [0, 1, 2] (by kernel_rfl) ?_
 refine oC (Does.yi (Yl.load (d := 7) (T := 42) (v := .agg (c_ApiEvent a0).toArray) (by kernel_rfl) (ldBN ty42 (l := c_ApiEvent a0) (o := 0) (cs := c_ApiEvent a0) (ent_refl _) (len_ApiEvent _ hl1) (whole _ _ (len_ApiEvent _ hl1)))) hI ?_)
 obtain ⟨y4, hc3, h0⟩ := bindS h0
 try dsimp only at h0
 refine oC (Does.call (d := some 8) (n := 33) (vs := [.agg (c_ApiEvent a0).toArray]) (by kernel_rfl) en33 (c33 w0 w _ _ hI a0 hl1 _ hc3) ?_)
 rintro e w ⟨rfl, hI⟩
 refine ⟨_, rfl, ?_⟩
 refine oP (r := []) [2] (S' := [(1, pb b2), (9, .bool (!y4))]) (by kernel_rfl) ?_
 refine oD ?_
 refine qT ?_
 by_cases hb5 : (!y4) = true
 ·
  rw [if_pos hb5] at h0
  refine CodT.yes' (b := !y4) (by kernel_rfl) hb5 ?_
  refine cQ ?_
  refine cR [0, 1] (by kernel_rfl) ?_
  refine oP (r := []) [0, 1] (S' := [(2, .string (⟨#[]⟩ : ByteArray)), (3, .bool false)]) (by kernel_rfl) ?_
  refine oD ?_
  refine qT ?_
  refine CodT.ret ?_
  refine Qn.ret_then ?_
  have hI := hI.drop
  have e := someS h0
  subst e
  refine qK [2, 3] (S' := [(2, .string (⟨#[]⟩ : ByteArray)), (3, .bool false)]) (by kernel_rfl) ?_
  exact post_ret (v := .tuple #[.string (⟨#[]⟩ : ByteArray), .bool false]) (fun a ha => RunRes.run (vs := [.string (⟨#[]⟩ : ByteArray), .bool false]) (.tmp (t := 2) (by kernel_rfl) (.tmp (t := 3) (by kernel_rfl) .nil)) ha (by kernel_rfl)) ⟨rfl, hI⟩
 ·
  rw [if_neg hb5] at h0
  refine CodT.no' (b := !y4) (by kernel_rfl) (by simpa using hb5) ?_
  refine CodT.skip ?_
  refine qT ?_
  refine cQ ?_
  refine cR [0, 1, 2, 3] (by kernel_rfl) ?_
  refine oP (r := [1, 2, 3]) [0] (S' := [(1, pb b2), (10, pb b2)]) (by kernel_rfl) ?_
  refine oC (Does.yi (Yl.load (d := 11) (T := 40) (v := iv a0.Kind) (by kernel_rfl) (ldB ty40 (l := c_ApiEvent a0) (o := 0) (v := iv a0.Kind) (ent_refl _) (by kernel_rfl))) hI ?_)
  obtain ⟨y7, hc6, h0⟩ := bindS h0
  try dsimp only at h0
  refine oC (Does.call (d := some 12) (n := 51) (vs := [iv a0.Kind]) (by kernel_rfl) en51 (c51 w0 w _ _ hI a0.Kind _ hc6) ?_)
  rintro e w ⟨rfl, hI⟩
  refine ⟨_, rfl, ?_⟩
  refine oP (r := []) [3] (S' := [(1, pb b2), (4, .string y7)]) (by kernel_rfl) ?_
  refine oD ?_
  refine qT ?_
  refine cQ ?_
  refine cQ ?_
  refine cR [0, 1, 2, 3] (by kernel_rfl) ?_
  refine oC (Does.yi (Yl.load (d := 13) (T := 42) (v := .agg (c_ApiEvent a0).toArray) (by kernel_rfl) (ldBN ty42 (l := c_ApiEvent a0) (o := 0) (cs := c_ApiEvent a0) (ent_refl _) (len_ApiEvent _ hl1) (whole _ _ (len_ApiEvent _ hl1)))) hI ?_)
  obtain ⟨y9, hc8, h0⟩ := bindS h0
  try dsimp only at h0
  refine oC (Does.call (d := some 14) (n := 30) (vs := [.agg (c_ApiEvent a0).toArray]) (by kernel_rfl) en30 (c30 w0 w _ _ hI a0 hl1 _ hc8) ?_)
  rintro e w ⟨A10, cp11, rfl, hI⟩
  refine ⟨_, rfl, ?_⟩
  refine oP (r := []) [2, 3] (S' := [(4, .string y7), (14, .slice A10 y9.length cp11), (15, iv (y9.length : Int)), (16, iv 0)]) (by kernel_rfl) ?_
  refine oD ?_
  refine qT ?_
  obtain ⟨r1, h1, h0⟩ := bindS h0
  refine CodT.meet1 (fun a w => ∃ (x12 : ByteArray), x12 = r1 ∧ Fr 26 [(4, .string x12)] a ∧ Inv w0 Z w A) ?_ ?_
  ·
   refine CodT.block ?_
   have hI := hI.mono (pick2 _ _ _)
   have hI := hI.drop
   refine (fun a ha => wp_loopN (fun k a w => ∃ (x13 : ByteArray) (x14 : Int), event_Put.l0 y9 k x13 x14 = some r1 ∧ Fr 26 [(4, .string x13), (14, .slice A10 y9.length cp11), (15, iv (y9.length : Int)), (16, iv x14)] a ∧ Inv w0 Z w (star (ownS 66 cD66 1 A10 cp11 y9) A)) ?_ FU a w ⟨y7, 0, h1, ha.keep [4, 14, 15, 16] (by kernel_rfl), hI⟩)
   clear h1 hI
   rintro k a w ⟨x13, x14, h1, ha, hI⟩
   rcases k with _ | k
   ·
    cases h1
   simp only [event_Put.l0] at h1
   refine CodT.of ?_ ha
   refine cQ ?_
   refine cR [0] (by kernel_rfl) ?_
   refine oP (r := []) [0] (S' := [(4, .string x13), (14, .slice A10 y9.length cp11), (15, iv (y9.length : Int)), (16, iv x14), (17, .bool (decide (x14 < (y9.length : Int))))]) (by kernel_rfl) ?_
   refine oD ?_
   refine qT ?_
   refine cQ ?_
   by_cases hb15 : (decide (x14 < (y9.length : Int))) = true
   ·
    rw [if_pos hb15] at h1
    refine CodT.yes' (b := decide (x14 < (y9.length : Int))) (by kernel_rfl) hb15 ?_
    refine CodT.skip ?_
    refine qT ?_
    obtain ⟨r2, h2, h1⟩ := bindS h1
    refine CodT.meet (fun a w => ∃ (x16 : ByteArray), x16 = r2 ∧ Fr 26 [(4, .string x16), (14, .slice A10 y9.length cp11), (15, iv (y9.length : Int)), (16, iv x14)] a ∧ Inv w0 Z w (star (ownS 66 cD66 1 A10 cp11 y9) A)) ?_ ?_
    ·
     refine CodT.block ?_
     refine cQ ?_
     refine cR [0, 1, 2] (by kernel_rfl) ?_
     obtain ⟨hg17, h2⟩ := guardS h2
     obtain ⟨g18, hA19, hr20, hl21⟩ := ownS_get hI hg17.1 hg17.2
     refine oC (Does.yi (Yl.indexSlice (d := 18) (T := 63) (cc := cp11) (k := .i64) (j := x14) (g := g18) (o := 0) (by kernel_rfl) Go.Proofs.Try.underlying63 ty66 hA19 hg17.1 hg17.2) hI ?_)
     refine oC (Does.yi (Yl.load (d := 19) (T := 66) (v := dynV66 (gt y9 x14)) (by kernel_rfl) (ldR ty66 (v := dynV66 (gt y9 x14)) 0 (fun w hC => hr20 w0 w _ hC) (by kernel_rfl))) hI ?_)
     refine oP (r := []) [2] (S' := [(4, .string x13), (6, dynV66 (gt y9 x14)), (14, .slice A10 y9.length cp11), (15, iv (y9.length : Int)), (16, iv x14)]) (by kernel_rfl) ?_
     refine oD ?_
     refine qT ?_
     refine cR [0, 1, 2, 3, 4] (by kernel_rfl) ?_
     refine oP (r := [2, 3, 4]) [0, 1] (S' := [(14, .slice A10 y9.length cp11), (15, iv (y9.length : Int)), (16, iv x14), (20, .string x13), (21, dynV66 (gt y9 x14))]) (by kernel_rfl) ?_
     rcases hd22 : gt y9 x14 with _ | z23 | z24 | z25
     ·
      simp only [hd22] at h2
      all_goals cases h2
     ·
      simp only [hd22] at h2
      refine oK [14, 15, 16, 20, 21] (S' := [(14, .slice A10 y9.length cp11), (15, iv (y9.length : Int)), (16, iv x14), (20, .string x13), (21, .iface 89 (iv z23))]) (by (try simp only [hd22]); kernel_rfl) ?_
      obtain ⟨y27, hc26, h2⟩ := bindS h2
      try dsimp only at h2
      refine oC (Does.invoke (nm := "cenotaph/event.put") (u := .iface 89 (iv z23)) (d := some 22) (n := 94) (vs := []) (by kernel_rfl) [iv z23] (fun _ => by kernel_rfl) (c94 w0 w _ _ hI z23 _ hc26) ?_)
      rintro e w ⟨rfl, hI⟩
      refine ⟨_, rfl, ?_⟩
      obtain ⟨hg28, h2⟩ := guardS h2
      refine oC (Does.yi (Yl.cat (d := 23) (T := 9) (x := x13) (y := y27) (by kernel_rfl) hg28) hI ?_)
      refine oP (r := []) [4] (S' := [(4, .string (x13 ++ y27)), (14, .slice A10 y9.length cp11), (15, iv (y9.length : Int)), (16, iv x14)]) (by kernel_rfl) ?_
      refine oD ?_
      refine Qn.block_normal ?_
      have e := someS h2
      subst e
      exact Qn.thenJ fun a ha => ⟨x13 ++ y27, rfl, ha.keep [4, 14, 15, 16] (by kernel_rfl), hI⟩
     ·
      simp only [hd22] at h2
      refine oK [14, 15, 16, 20, 21] (S' := [(14, .slice A10 y9.length cp11), (15, iv (y9.length : Int)), (16, iv x14), (20, .string x13), (21, .iface 90 (.string z24))]) (by (try simp only [hd22]); kernel_rfl) ?_
      obtain ⟨y30, hc29, h2⟩ := bindS h2
      try dsimp only at h2
      refine oC (Does.invoke (nm := "cenotaph/event.put") (u := .iface 90 (.string z24)) (d := some 22) (n := 96) (vs := []) (by kernel_rfl) [.string z24] (fun _ => by kernel_rfl) (c96 w0 w _ _ hI z24 _ hc29) ?_)
      rintro e w ⟨rfl, hI⟩
      refine ⟨_, rfl, ?_⟩
      obtain ⟨hg31, h2⟩ := guardS h2
      refine oC (Does.yi (Yl.cat (d := 23) (T := 9) (x := x13) (y := y30) (by kernel_rfl) hg31) hI ?_)
      refine oP (r := []) [4] (S' := [(4, .string (x13 ++ y30)), (14, .slice A10 y9.length cp11), (15, iv (y9.length : Int)), (16, iv x14)]) (by kernel_rfl) ?_
      refine oD ?_
      refine Qn.block_normal ?_
      have e := someS h2
      subst e
      exact Qn.thenJ fun a ha => ⟨x13 ++ y30, rfl, ha.keep [4, 14, 15, 16] (by kernel_rfl), hI⟩
     ·
      simp only [hd22] at h2
      obtain ⟨hg32, h2⟩ := guardS h2
      refine oK [14, 15, 16, 20, 21] (S' := [(14, .slice A10 y9.length cp11), (15, iv (y9.length : Int)), (16, iv x14), (20, .string x13), (21, .iface 91 (.agg (cA (Value.int .u8) z25).toArray))]) (by (try simp only [hd22]); kernel_rfl) ?_
      obtain ⟨y34, hc33, h2⟩ := bindS h2
      try dsimp only at h2
      refine oC (Does.invoke (nm := "cenotaph/event.put") (u := .iface 91 (.agg (cA (Value.int .u8) z25).toArray)) (d := some 22) (n := 99) (vs := []) (by kernel_rfl) [.agg (cA (Value.int .u8) z25).toArray] (fun _ => by kernel_rfl) (c99 w0 w _ _ hI z25 hg32 _ hc33) ?_)
      rintro e w ⟨rfl, hI⟩
      refine ⟨_, rfl, ?_⟩
      obtain ⟨hg35, h2⟩ := guardS h2
      refine oC (Does.yi (Yl.cat (d := 23) (T := 9) (x := x13) (y := y34) (by kernel_rfl) hg35) hI ?_)
      refine oP (r := []) [4] (S' := [(4, .string (x13 ++ y34)), (14, .slice A10 y9.length cp11), (15, iv (y9.length : Int)), (16, iv x14)]) (by kernel_rfl) ?_
      refine oD ?_
      refine Qn.block_normal ?_
      have e := someS h2
      subst e
      exact Qn.thenJ fun a ha => ⟨x13 ++ y34, rfl, ha.keep [4, 14, 15, 16] (by kernel_rfl), hI⟩
    ·
     rintro a w ⟨x16, rfl, ha, hI⟩
     try dsimp only at h1
     refine CodT.of ?_ ha
     refine cR [0, 1] (by kernel_rfl) ?_
     refine oP (r := []) [0, 1] (S' := [(4, .string x16), (14, .slice A10 y9.length cp11), (15, iv (y9.length : Int)), (16, iv (wi64 (x14 + 1)))]) (by kernel_rfl) ?_
     refine oD ?_
     exact Qn.thenJ fun a ha => ⟨k, Nat.lt_succ_self k, x16, wi64 (x14 + 1), h1, ha.keep [4, 14, 15, 16] (by kernel_rfl), hI⟩
   ·
    rw [if_neg hb15] at h1
    refine CodT.no' (b := decide (x14 < (y9.length : Int))) (by kernel_rfl) (by simpa using hb15) ?_
    refine CodT.exit ?_
    refine Qn.exit_then ?_
    refine Qn.exit_then ?_
    refine Qn.block ?_
    have hI := hI.drop
    have e := someS h1
    subst e
    exact Qn.thenJ fun a ha => ⟨x13, rfl, ha.keep [4] (by kernel_rfl), hI⟩
  ·
   rintro a w ⟨x12, rfl, ha, hI⟩
   try dsimp only at h0
   refine Qn.of ?_ ha
   refine qT ?_
   refine cQ ?_
   refine cR [0, 1, 2] (by kernel_rfl) ?_
   refine oP (r := []) [0, 1, 2] (S' := [(2, .string x12), (3, .bool true)]) (by kernel_rfl) ?_
   refine oD ?_
   refine qT ?_
   refine CodT.ret ?_
   have e := someS h0
   subst e
   refine qK [2, 3] (S' := [(2, .string x12), (3, .bool true)]) (by kernel_rfl) ?_
   exact post_ret (v := .tuple #[.string x12, .bool true]) (fun a ha => RunRes.run (vs := [.string x12, .bool true]) (.tmp (t := 2) (by kernel_rfl) (.tmp (t := 3) (by kernel_rfl) .nil)) ha (by kernel_rfl)) ⟨rfl, hI⟩
/-- cenotaph/sha.Link -/
theorem c35 (w0 w : World) (Z : Hp) (A : HP) (hI : Inv w0 Z w A) (a0 : (List Int)) (hl_a0 : a0.length = 32) (a1 : ByteArray) (r : (List Int)) (h0 : sha_Link a0 a1 = some r) :
  Calls prog 35 #[.agg (cA (Value.int .u8) a0).toArray, .string a1] w (fun e w' => e = .returned (.agg (cA (Value.int .u8) r).toArray) ∧ r.length = 32 ∧ Inv w0 Z w' A) := by
 have e4 := calls_intro (R := (fun e w' => e = .returned (.agg (cA (Value.int .u8) r).toArray) ∧ r.length = 32 ∧ Inv w0 Z w' A)) (w := w) (args := [.agg (cA (Value.int .u8) a0).toArray, .string a1]) (fn := Go.Proofs.Try.f35) 10 Go.Proofs.Try.func35 (by rfl) Go.Proofs.Try.ntmps35 (by kernel_rfl)
 refine e4 ?_
 clear e4
 unfold sha_Link at h0
 refine cQ ?_
 refine cR [0, 1] (by kernel_rfl) ?_
 refine oC (Does.boxL (d := 2) (T := 29) (v := .agg (cA (Value.int .u8) a0).toArray) (cA (Value.int .u8) a0) (by kernel_rfl) hI (by kernel_rfl) ?_)
 intro b1 w hI
 refine oC (Does.allocL (d := 4) (T := 29) (cA (Value.int .u8) (List.replicate 32 (0 : Int))) (by kernel_rfl) ty29 hI (by kernel_rfl) ?_)
 intro b2 w hI
 refine oD ?_
 refine qT ?_
 refine cQ ?_
 refine cR [0, 1, 2, 3, 4, 5] (by kernel_rfl) ?_
 refine oP (r := [1, 2, 3, 4, 5]) [0] (S' := [(1, .string a1), (4, pb b2), (5, .slice (some ⟨b1, 0, none⟩) 32 32)]) (by kernel_rfl) ?_
 refine oC (Does.yi (Yl.b2sV (d := 6) (src := 45) (dst := 9) (g := b1) (o := 0) (c := 32) (n := 32) (xs := a0) (by kernel_rfl) Go.Proofs.Try.underlying45 Go.Proofs.Try.underlying5 Go.Proofs.Try.underlying9 hl_a0 (fun w hC => range_at (hC.mono (pick2 _ _ _)).block (fun j v hv => by simpa using hv))) hI ?_)
 refine oP (r := [3, 4, 5]) [2] (S' := [(4, pb b2), (6, .string (strOfNums a0)), (7, .string a1)]) (by kernel_rfl) ?_
 obtain ⟨hg3, h0⟩ := guardS h0
 refine oC (Does.yi (Yl.cat (d := 8) (T := 9) (x := strOfNums a0) (y := a1) (by kernel_rfl) hg3) hI ?_)
 obtain ⟨y5, hc4, h0⟩ := bindS h0
 try dsimp only at h0
 refine oC (Does.call (d := some 9) (n := 16) (vs := [.string ((strOfNums a0) ++ a1)]) (by kernel_rfl) en16 (c16 w0 w _ _ hI ((strOfNums a0) ++ a1) _ hc4) ?_)
 rintro e w ⟨rfl, hl6, hI⟩
 refine ⟨_, rfl, ?_⟩
 refine oC (Does.storeAll (T := 29) (b := b2) (n := 32) (xs := (List.replicate 32 (0 : Int))) (ys := y5) (by kernel_rfl) ty29 hI (fun _ => rfl) (by kernel_rfl) hl6 ?_)
 intro w hI
 refine oD ?_
 refine qT ?_
 refine CodT.ret ?_
 have hL7 := (ldBN ty29 (l := cA (Value.int .u8) y5) (o := 0) (cs := cA (Value.int .u8) y5) (ent_refl _) ((cA_length _ _).trans hl6) (whole _ _ ((cA_length _ _).trans hl6))) w hI
 have hI := hI.drop
 have hI := hI.drop
 have e := someS h0
 subst e
 refine qK [4] (S' := [(4, pb b2)]) (by kernel_rfl) ?_
 exact post_ret (v := .agg (cA (Value.int .u8) y5).toArray) (fun a ha => RunRes.run (vs := [.agg (cA (Value.int .u8) y5).toArray]) (.cell (t := 4) (T := 29) (ad := ⟨b2, 0, none⟩) (by kernel_rfl) hL7 .nil) ha (by kernel_rfl)) ⟨rfl, hl6, hI⟩
/-- cenotaph/chain.Next -/
theorem c20 (w0 w : World) (Z : Hp) (A : HP) (hI : Inv w0 Z w A) (a0 : (List Int)) (hl_a0 : a0.length = 32) (a1 : ApiEvent) (hl1 : a1.Sum.length = 32) (r : ((List Int) × Bool)) (h0 : chain_Next a0 a1 = some r) :
  Calls prog 20 #[.agg (cA (Value.int .u8) a0).toArray, .agg (c_ApiEvent a1).toArray] w (fun e w' => e = .returned (.tuple #[.agg (cA (Value.int .u8) r.1).toArray, .bool r.2]) ∧ r.1.length = 32 ∧ Inv w0 Z w' A) := by
 have e4 := calls_intro (R := (fun e w' => e = .returned (.tuple #[.agg (cA (Value.int .u8) r.1).toArray, .bool r.2]) ∧ r.1.length = 32 ∧ Inv w0 Z w' A)) (w := w) (args := [.agg (cA (Value.int .u8) a0).toArray, .agg (c_ApiEvent a1).toArray]) (fn := Go.Proofs.Try.f20) 19 Go.Proofs.Try.func20 (by rfl) Go.Proofs.Try.ntmps20 (by kernel_rfl)
 refine e4 ?_
 clear e4
 unfold chain_Next at h0
 refine cQ ?_
 refine cR [0, 1, 2, 3] (by kernel_rfl) ?_
 refine oC (Does.boxL (d := 2) (T := 29) (v := .agg (cA (Value.int .u8) a0).toArray) (cA (Value.int .u8) a0) (by kernel_rfl) hI (by kernel_rfl) ?_)
 intro b2 w hI
 refine oC (Does.boxL (d := 3) (T := 42) (v := .agg (c_ApiEvent a1).toArray) (c_ApiEvent a1) (by kernel_rfl) hI (by kernel_rfl) ?_)
 intro b3 w hI
 refine oC (Does.allocL (d := 4) (T := 29) (cA (Value.int .u8) (List.replicate 32 (0 : Int))) (by kernel_rfl) ty29 hI (by kernel_rfl) ?_)
 intro b4 w hI
 refine oP (r := []) [3] (S' := [(2, pb b2), (3, pb b3), (4, pb b4)]) (by kernel_rfl) ?_
 refine oD ?_
 refine qT ?_
 refine cQ ?_
 refine cR [0, 1, 2, 3, 4, 5, 6] (by kernel_rfl) ?_
 refine oC (Does.yi (Yl.load (d := 9) (T := 42) (v := .agg (c_ApiEvent a1).toArray) (by kernel_rfl) (ldBN ty42 (l := c_ApiEvent a1) (o := 0) (cs := c_ApiEvent a1) (pick2 _ _ _) (len_ApiEvent _ hl1) (whole _ _ (len_ApiEvent _ hl1)))) hI ?_)
 obtain ⟨⟨y6, y7⟩, hc5, h0⟩ := bindS h0
 try dsimp only at h0
 refine oC (Does.call (d := some 10) (n := 34) (vs := [.agg (c_ApiEvent a1).toArray]) (by kernel_rfl) en34 (c34 w0 w _ _ hI a1 hl1 _ hc5) ?_)
 rintro e w ⟨rfl, hI⟩
 refine ⟨_, rfl, ?_⟩
 refine oP (r := []) [2, 3, 4, 5, 6] (S' := [(2, pb b2), (4, pb b4), (6, .string y6), (7, .bool y7)]) (by kernel_rfl) ?_
 refine oD ?_
 refine qT ?_
 refine cQ ?_
 refine cQ ?_
 refine cR [0, 1] (by kernel_rfl) ?_
 refine oP (r := []) [0, 1] (S' := [(2, pb b2), (4, pb b4), (6, .string y6), (14, .bool (!y7))]) (by kernel_rfl) ?_
 refine oD ?_
 refine qT ?_
 by_cases hb8 : (!y7) = true
 ·
  rw [if_pos hb8] at h0
  refine CodT.yes' (b := !y7) (by kernel_rfl) hb8 ?_
  refine cQ ?_
  refine cR [0, 1, 2] (by kernel_rfl) ?_
  refine oP (r := [1, 2]) [0] (S' := [(4, pb b4), (15, .agg (cA (Value.int .u8) ([0, 0, 0, 0, 0, 0, 0, 0, 0, 0, 0, 0, 0, 0, 0, 0, 0, 0, 0, 0, 0, 0, 0, 0, 0, 0, 0, 0, 0, 0, 0, 0] : List Int)).toArray)]) (by kernel_rfl) ?_
  refine oC (Does.storeAll (T := 29) (b := b4) (n := 32) (xs := (List.replicate 32 (0 : Int))) (ys := ([0, 0, 0, 0, 0, 0, 0, 0, 0, 0, 0, 0, 0, 0, 0, 0, 0, 0, 0, 0, 0, 0, 0, 0, 0, 0, 0, 0, 0, 0, 0, 0] : List Int)) (by kernel_rfl) ty29 hI (fun _ => rfl) (by kernel_rfl) (by kernel_rfl) ?_)
  intro w hI
  refine oP (r := []) [2] (S' := [(4, pb b4), (5, .bool false)]) (by kernel_rfl) ?_
  refine oD ?_
  refine qT ?_
  refine CodT.ret ?_
  refine Qn.ret_then ?_
  have hL9 := (ldBN ty29 (l := cA (Value.int .u8) ([0, 0, 0, 0, 0, 0, 0, 0, 0, 0, 0, 0, 0, 0, 0, 0, 0, 0, 0, 0, 0, 0, 0, 0, 0, 0, 0, 0, 0, 0, 0, 0] : List Int)) (o := 0) (cs := cA (Value.int .u8) ([0, 0, 0, 0, 0, 0, 0, 0, 0, 0, 0, 0, 0, 0, 0, 0, 0, 0, 0, 0, 0, 0, 0, 0, 0, 0, 0, 0, 0, 0, 0, 0] : List Int)) (ent_refl _) ((cA_length _ _).trans (by kernel_rfl)) (whole _ _ ((cA_length _ _).trans (by kernel_rfl)))) w hI
  have hI := hI.drop
  have hI := hI.drop
  have hI := hI.drop
  have e := someS h0
  subst e
  refine qK [4, 5] (S' := [(4, pb b4), (5, .bool false)]) (by kernel_rfl) ?_
  exact post_ret (v := .tuple #[.agg (cA (Value.int .u8) ([0, 0, 0, 0, 0, 0, 0, 0, 0, 0, 0, 0, 0, 0, 0, 0, 0, 0, 0, 0, 0, 0, 0, 0, 0, 0, 0, 0, 0, 0, 0, 0] : List Int)).toArray, .bool false]) (fun a ha => RunRes.run (vs := [.agg (cA (Value.int .u8) ([0, 0, 0, 0, 0, 0, 0, 0, 0, 0, 0, 0, 0, 0, 0, 0, 0, 0, 0, 0, 0, 0, 0, 0, 0, 0, 0, 0, 0, 0, 0, 0] : List Int)).toArray, .bool false]) (.cell (t := 4) (T := 29) (ad := ⟨b4, 0, none⟩) (by kernel_rfl) hL9 (.tmp (t := 5) (by kernel_rfl) .nil)) ha (by kernel_rfl)) ⟨rfl, (by kernel_rfl), hI⟩
 ·
  rw [if_neg hb8] at h0
  refine CodT.no' (b := !y7) (by kernel_rfl) (by simpa using hb8) ?_
  refine CodT.skip ?_
  refine qT ?_
  refine cQ ?_
  refine cR [0, 1, 2, 3, 4] (by kernel_rfl) ?_
  refine oC (Does.yi (Yl.load (d := 16) (T := 29) (v := .agg (cA (Value.int .u8) a0).toArray) (by kernel_rfl) (ldBN ty29 (l := cA (Value.int .u8) a0) (o := 0) (cs := cA (Value.int .u8) a0) (pick3 _ _ _ _) ((cA_length _ _).trans hl_a0) (whole _ _ ((cA_length _ _).trans hl_a0)))) hI ?_)
  refine oP (r := [2, 3, 4]) [1] (S' := [(4, pb b4), (16, .agg (cA (Value.int .u8) a0).toArray), (17, .string y6)]) (by kernel_rfl) ?_
  obtain ⟨y11, hc10, h0⟩ := bindS h0
  try dsimp only at h0
  refine oC (Does.call (d := some 18) (n := 35) (vs := [.agg (cA (Value.int .u8) a0).toArray, .string y6]) (by kernel_rfl) en35 (c35 w0 w _ _ hI a0 hl_a0 y6 _ hc10) ?_)
  rintro e w ⟨rfl, hl12, hI⟩
  refine ⟨_, rfl, ?_⟩
  refine oC (Does.storeAll (T := 29) (b := b4) (n := 32) (xs := (List.replicate 32 (0 : Int))) (ys := y11) (by kernel_rfl) ty29 hI (fun _ => rfl) (by kernel_rfl) hl12 ?_)
  intro w hI
  refine oP (r := []) [4] (S' := [(4, pb b4), (5, .bool true)]) (by kernel_rfl) ?_
  refine oD ?_
  refine qT ?_
  refine CodT.ret ?_
  have hL13 := (ldBN ty29 (l := cA (Value.int .u8) y11) (o := 0) (cs := cA (Value.int .u8) y11) (ent_refl _) ((cA_length _ _).trans hl12) (whole _ _ ((cA_length _ _).trans hl12))) w hI
  have hI := hI.drop
  have hI := hI.drop
  have hI := hI.drop
  have e := someS h0
  subst e
  refine qK [4, 5] (S' := [(4, pb b4), (5, .bool true)]) (by kernel_rfl) ?_
  exact post_ret (v := .tuple #[.agg (cA (Value.int .u8) y11).toArray, .bool true]) (fun a ha => RunRes.run (vs := [.agg (cA (Value.int .u8) y11).toArray, .bool true]) (.cell (t := 4) (T := 29) (ad := ⟨b4, 0, none⟩) (by kernel_rfl) hL13 (.tmp (t := 5) (by kernel_rfl) .nil)) ha (by kernel_rfl)) ⟨rfl, hl12, hI⟩
/-- cenotaph/chain.Head -/
theorem c12 (w0 w : World) (Z : Hp) (A : HP) (hI : Inv w0 Z w A) (a0 : (List Int)) (hl_a0 : a0.length = 32) (A_a1 : Option Addr) (c_a1 : Nat) (a1 : (List ApiEvent)) (hr_a1 : RdS Z c_ApiEvent 37 A_a1 c_a1 a1) (r : ((List Int) × Bool)) (h0 : chain_Head a0 a1 = some r) :
  Calls prog 12 #[.agg (cA (Value.int .u8) a0).toArray, .slice A_a1 a1.length c_a1] w (fun e w' => e = .returned (.tuple #[.agg (cA (Value.int .u8) r.1).toArray, .bool r.2]) ∧ r.1.length = 32 ∧ Inv w0 Z w' A) := by
 have e4 := calls_intro (R := (fun e w' => e = .returned (.tuple #[.agg (cA (Value.int .u8) r.1).toArray, .bool r.2]) ∧ r.1.length = 32 ∧ Inv w0 Z w' A)) (w := w) (args := [.agg (cA (Value.int .u8) a0).toArray, .slice A_a1 a1.length c_a1]) (fn := Go.Proofs.Try.f12) 28 Go.Proofs.Try.func12 (by rfl) Go.Proofs.Try.ntmps12 (by kernel_rfl)
 refine e4 ?_
 clear e4
 unfold chain_Head at h0
 refine cQ ?_
 refine cR [0, 1, 2] (by kernel_rfl) ?_
 refine oC (Does.boxL (d := 2) (T := 29) (v := .agg (cA (Value.int .u8) a0).toArray) (cA (Value.int .u8) a0) (by kernel_rfl) hI (by kernel_rfl) ?_)
 intro b1 w hI
 refine oC (Does.allocL (d := 4) (T := 29) (cA (Value.int .u8) (List.replicate 32 (0 : Int))) (by kernel_rfl) ty29 hI (by kernel_rfl) ?_)
 intro b2 w hI
 refine oP (r := []) [2] (S' := [(1, .slice A_a1 a1.length c_a1), (2, pb b1), (4, pb b2)]) (by kernel_rfl) ?_
 refine oD ?_
 refine qT ?_
 refine cQ ?_
 refine cQ ?_
 refine cR [0, 1, 2] (by kernel_rfl) ?_
 refine oP (r := []) [0, 1, 2] (S' := [(2, pb b1), (4, pb b2), (10, .slice A_a1 a1.length c_a1), (11, iv (a1.length : Int)), (12, iv 0)]) (by kernel_rfl) ?_
 refine oD ?_
 refine qT ?_
 obtain ⟨r1, h1, h0⟩ := bindS h0
 refine CodT.meet1 (fun a w => ∃ (x3 : (List Int)), .inr x3 = r1 ∧ Fr 28 [(2, pb b1), (4, pb b2)] a ∧ Inv w0 Z w (star (pt b2 (.cells (cA (Value.int .u8) (List.replicate 32 (0 : Int))).toArray 29 (0, 0))) (star (pt b1 (.cells (cA (Value.int .u8) x3).toArray 29 (0, 0))) A)) ∧ x3.length = 32) ?_ ?_
 ·
  refine CodT.block ?_
  refine (fun a ha => wp_loopN (fun k a w => ∃ (x5 : Int) (x6 : (List Int)), chain_Head.l0 a1 k x5 x6 = some r1 ∧ Fr 28 [(2, pb b1), (4, pb b2), (10, .slice A_a1 a1.length c_a1), (11, iv (a1.length : Int)), (12, iv x5)] a ∧ Inv w0 Z w (star (pt b2 (.cells (cA (Value.int .u8) (List.replicate 32 (0 : Int))).toArray 29 (0, 0))) (star (pt b1 (.cells (cA (Value.int .u8) x6).toArray 29 (0, 0))) A)) ∧ x6.length = 32) ?_ FU a w ⟨0, a0, h1, ha.keep [2, 4, 10, 11, 12] (by kernel_rfl), hI, hl_a0⟩)
  clear h1 hI
  rintro k a w ⟨x5, x6, h1, ha, hI, hl7⟩
  rcases k with _ | k
  ·
   cases h1
  simp only [chain_Head.l0] at h1
  refine CodT.of ?_ ha
  refine cQ ?_
  refine cR [0] (by kernel_rfl) ?_
  refine oP (r := []) [0] (S' := [(2, pb b1), (4, pb b2), (10, .slice A_a1 a1.length c_a1), (11, iv (a1.length : Int)), (12, iv x5), (13, .bool (decide (x5 < (a1.length : Int))))]) (by kernel_rfl) ?_
  refine oD ?_
  refine qT ?_
  refine cQ ?_
  by_cases hb8 : (decide (x5 < (a1.length : Int))) = true
  ·
   rw [if_pos hb8] at h1
   refine CodT.yes' (b := decide (x5 < (a1.length : Int))) (by kernel_rfl) hb8 ?_
   refine CodT.skip ?_
   refine qT ?_
   refine cQ ?_
   refine CodT.block ?_
   refine cQ ?_
   refine cR [0, 1, 2, 3] (by kernel_rfl) ?_
   obtain ⟨hg9, h1⟩ := guardS h1
   obtain ⟨g10, o14, hA11, hr12, hl13⟩ := RdS.get hr_a1 hg9.1 hg9.2
   refine oC (Does.yi (Yl.indexSlice (d := 14) (T := 22) (cc := c_a1) (k := .i64) (j := x5) (g := g10) (o := o14) (by kernel_rfl) Go.Proofs.Try.underlying22 ty42 hA11 hg9.1 hg9.2) hI ?_)
   refine oC (Does.yi (Yl.load (d := 15) (T := 42) (v := .agg (c_ApiEvent (gt a1 x5)).toArray) (by kernel_rfl) (ldRN ty42 (cs := c_ApiEvent (gt a1 x5)) 0 (fun w hC => hr12 w0 w _ hC) hl13 (whole _ _ hl13))) hI ?_)
   refine oC (Does.allocL (d := 7) (T := 42) (c_ApiEvent (ApiEvent.mk 0 0 (⟨#[]⟩ : ByteArray) 0 0 (List.replicate 32 (0 : Int)))) (by kernel_rfl) ty42 hI (by kernel_rfl) ?_)
   intro b15 w hI
   refine oC (dS (T := 42) (b := b15) (o := 0) (v := .agg (c_ApiEvent (gt a1 x5)).toArray) (l := c_ApiEvent (ApiEvent.mk 0 0 (⟨#[]⟩ : ByteArray) 0 0 (List.replicate 32 (0 : Int)))) (vs := c_ApiEvent (gt a1 x5)) (L' := c_ApiEvent (gt a1 x5)) (by kernel_rfl) ty42 hI (by kernel_rfl) (len_ApiEvent _ (inv_ApiEvent _ hl13)) (by rw [(len_ApiEvent _ (by kernel_rfl))]; kernel_rfl) (ones_app _ _ (by kernel_rfl) (ones_cA _)) (lset_all _ _ (Eq.trans (len_ApiEvent _ (inv_ApiEvent _ hl13)) (Eq.symm (len_ApiEvent _ (by kernel_rfl))))) ?_)
   intro w hI
   refine oD ?_
   refine qT ?_
   refine cQ ?_
   refine cR [0, 1, 2, 3, 4, 5, 6, 7, 8] (by kernel_rfl) ?_
   refine oC (Does.yi (Yl.load (d := 17) (T := 29) (v := .agg (cA (Value.int .u8) x6).toArray) (by kernel_rfl) (ldBN ty29 (l := cA (Value.int .u8) x6) (o := 0) (cs := cA (Value.int .u8) x6) (pick3 _ _ _ _) ((cA_length _ _).trans hl7) (whole _ _ ((cA_length _ _).trans hl7)))) hI ?_)
   refine oC (Does.yi (Yl.load (d := 18) (T := 42) (v := .agg (c_ApiEvent (gt a1 x5)).toArray) (by kernel_rfl) (ldBN ty42 (l := c_ApiEvent (gt a1 x5)) (o := 0) (cs := c_ApiEvent (gt a1 x5)) (ent_refl _) (len_ApiEvent _ (inv_ApiEvent _ hl13)) (whole _ _ (len_ApiEvent _ (inv_ApiEvent _ hl13))))) hI ?_)
   obtain ⟨⟨y17, y19⟩, hc16, h1⟩ := bindS h1
   try dsimp only at h1
   refine oC (Does.call (d := some 19) (n := 20) (vs := [.agg (cA (Value.int .u8) x6).toArray, .agg (c_ApiEvent (gt a1 x5)).toArray]) (by kernel_rfl) en20 (c20 w0 w _ _ hI x6 hl7 (gt a1 x5) (inv_ApiEvent _ hl13) _ hc16) ?_)
   rintro e w ⟨rfl, hl18, hI⟩
   refine ⟨_, rfl, ?_⟩
   refine oP (r := [6, 7, 8]) [3, 4, 5] (S' := [(2, pb b1), (4, pb b2), (10, .slice A_a1 a1.length c_a1), (11, iv (a1.length : Int)), (12, iv x5), (20, .agg (cA (Value.int .u8) y17).toArray), (21, .bool y19)]) (by kernel_rfl) ?_
   refine oC (Does.allocL (d := 8) (T := 29) (cA (Value.int .u8) (List.replicate 32 (0 : Int))) (by kernel_rfl) ty29 hI (by kernel_rfl) ?_)
   intro b20 w hI
   refine oC (Does.storeAll (T := 29) (b := b20) (n := 32) (xs := (List.replicate 32 (0 : Int))) (ys := y17) (by kernel_rfl) ty29 hI (fun _ => rfl) (by kernel_rfl) hl18 ?_)
   intro w hI
   refine oP (r := []) [8] (S' := [(2, pb b1), (4, pb b2), (8, pb b20), (9, .bool y19), (10, .slice A_a1 a1.length c_a1), (11, iv (a1.length : Int)), (12, iv x5)]) (by kernel_rfl) ?_
   refine oD ?_
   refine qT ?_
   refine cQ ?_
   refine cQ ?_
   refine cR [0, 1] (by kernel_rfl) ?_
   refine oP (r := []) [0, 1] (S' := [(2, pb b1), (4, pb b2), (8, pb b20), (10, .slice A_a1 a1.length c_a1), (11, iv (a1.length : Int)), (12, iv x5), (23, .bool (!y19))]) (by kernel_rfl) ?_
   refine oD ?_
   refine qT ?_
   by_cases hb21 : (!y19) = true
   ·
    rw [if_pos hb21] at h1
    refine CodT.yes' (b := !y19) (by kernel_rfl) hb21 ?_
    refine cQ ?_
    refine cR [0, 1, 2] (by kernel_rfl) ?_
    refine oP (r := [1, 2]) [0] (S' := [(4, pb b2), (24, .agg (cA (Value.int .u8) ([0, 0, 0, 0, 0, 0, 0, 0, 0, 0, 0, 0, 0, 0, 0, 0, 0, 0, 0, 0, 0, 0, 0, 0, 0, 0, 0, 0, 0, 0, 0, 0] : List Int)).toArray)]) (by kernel_rfl) ?_
    have hI := hI.mono (pick3 _ _ _ _)
    refine oC (Does.storeAll (T := 29) (b := b2) (n := 32) (xs := (List.replicate 32 (0 : Int))) (ys := ([0, 0, 0, 0, 0, 0, 0, 0, 0, 0, 0, 0, 0, 0, 0, 0, 0, 0, 0, 0, 0, 0, 0, 0, 0, 0, 0, 0, 0, 0, 0, 0] : List Int)) (by kernel_rfl) ty29 hI (fun _ => rfl) (by kernel_rfl) (by kernel_rfl) ?_)
    intro w hI
    refine oP (r := []) [2] (S' := [(4, pb b2), (5, .bool false)]) (by kernel_rfl) ?_
    refine oD ?_
    refine qT ?_
    refine CodT.ret ?_
    refine Qn.ret_then ?_
    refine Qn.block_ret ?_
    refine Qn.ret_then ?_
    refine Qn.ret_then ?_
    refine Qn.block_ret ?_
    refine Qn.ret_then ?_
    refine Qn.ret_then ?_
    have hL22 := (ldBN ty29 (l := cA (Value.int .u8) ([0, 0, 0, 0, 0, 0, 0, 0, 0, 0, 0, 0, 0, 0, 0, 0, 0, 0, 0, 0, 0, 0, 0, 0, 0, 0, 0, 0, 0, 0, 0, 0] : List Int)) (o := 0) (cs := cA (Value.int .u8) ([0, 0, 0, 0, 0, 0, 0, 0, 0, 0, 0, 0, 0, 0, 0, 0, 0, 0, 0, 0, 0, 0, 0, 0, 0, 0, 0, 0, 0, 0, 0, 0] : List Int)) (ent_refl _) ((cA_length _ _).trans (by kernel_rfl)) (whole _ _ ((cA_length _ _).trans (by kernel_rfl)))) w hI
    have hI := hI.drop
    have hI := hI.drop
    have hI := hI.drop
    have hI := hI.drop
    have e := someS h1
    subst e
    try dsimp only at h0
    have e := someS h0
    subst e
    refine qK [4, 5] (S' := [(4, pb b2), (5, .bool false)]) (by kernel_rfl) ?_
    exact post_ret (v := .tuple #[.agg (cA (Value.int .u8) ([0, 0, 0, 0, 0, 0, 0, 0, 0, 0, 0, 0, 0, 0, 0, 0, 0, 0, 0, 0, 0, 0, 0, 0, 0, 0, 0, 0, 0, 0, 0, 0] : List Int)).toArray, .bool false]) (fun a ha => RunRes.run (vs := [.agg (cA (Value.int .u8) ([0, 0, 0, 0, 0, 0, 0, 0, 0, 0, 0, 0, 0, 0, 0, 0, 0, 0, 0, 0, 0, 0, 0, 0, 0, 0, 0, 0, 0, 0, 0, 0] : List Int)).toArray, .bool false]) (.cell (t := 4) (T := 29) (ad := ⟨b2, 0, none⟩) (by kernel_rfl) hL22 (.tmp (t := 5) (by kernel_rfl) .nil)) ha (by kernel_rfl)) ⟨rfl, (by kernel_rfl), hI⟩
   ·
    rw [if_neg hb21] at h1
    refine CodT.no' (b := !y19) (by kernel_rfl) (by simpa using hb21) ?_
    refine CodT.skip ?_
    refine qT ?_
    refine cR [0, 1] (by kernel_rfl) ?_
    refine oC (Does.yi (Yl.load (d := 25) (T := 29) (v := .agg (cA (Value.int .u8) y17).toArray) (by kernel_rfl) (ldBN ty29 (l := cA (Value.int .u8) y17) (o := 0) (cs := cA (Value.int .u8) y17) (ent_refl _) ((cA_length _ _).trans hl18) (whole _ _ ((cA_length _ _).trans hl18)))) hI ?_)
    have hI := hI.mono (pick4 _ _ _ _ _)
    refine oC (Does.storeAll (T := 29) (b := b1) (n := 32) (xs := x6) (ys := y17) (by kernel_rfl) ty29 hI (fun _ => rfl) hl7 hl18 ?_)
    intro w hI
    refine oD ?_
    refine Qn.block_normal ?_
    refine qT ?_
    refine cR [0, 1] (by kernel_rfl) ?_
    refine oP (r := []) [0, 1] (S' := [(2, pb b1), (4, pb b2), (10, .slice A_a1 a1.length c_a1), (11, iv (a1.length : Int)), (12, iv (wi64 (x5 + 1)))]) (by kernel_rfl) ?_
    refine oD ?_
    have hI := hI.mono (pick2 _ _ _)
    have hI := hI.drop
    have hI := hI.mono (pick2 _ _ _)
    have hI := hI.drop
    have hI := hI.mono (pick2 _ _ _)
    exact Qn.thenJ fun a ha => ⟨k, Nat.lt_succ_self k, wi64 (x5 + 1), y17, h1, ha.keep [2, 4, 10, 11, 12] (by kernel_rfl), hI, hl18⟩
  ·
   rw [if_neg hb8] at h1
   refine CodT.no' (b := decide (x5 < (a1.length : Int))) (by kernel_rfl) (by simpa using hb8) ?_
   refine CodT.exit ?_
   refine Qn.exit_then ?_
   refine Qn.exit_then ?_
   refine Qn.block ?_
   have e := someS h1
   subst e
   exact Qn.thenJ fun a ha => ⟨x6, rfl, ha.keep [2, 4] (by kernel_rfl), hI, hl7⟩
 ·
  rintro a w ⟨x3, rfl, ha, hI, hl4⟩
  try dsimp only at h0
  refine Qn.of ?_ ha
  refine qT ?_
  refine cQ ?_
  refine cR [0, 1, 2] (by kernel_rfl) ?_
  refine oC (Does.yi (Yl.load (d := 27) (T := 29) (v := .agg (cA (Value.int .u8) x3).toArray) (by kernel_rfl) (ldBN ty29 (l := cA (Value.int .u8) x3) (o := 0) (cs := cA (Value.int .u8) x3) (pick2 _ _ _) ((cA_length _ _).trans hl4) (whole _ _ ((cA_length _ _).trans hl4)))) hI ?_)
  refine oC (Does.storeAll (T := 29) (b := b2) (n := 32) (xs := (List.replicate 32 (0 : Int))) (ys := x3) (by kernel_rfl) ty29 hI (fun _ => rfl) (by kernel_rfl) hl4 ?_)
  intro w hI
  refine oP (r := []) [2] (S' := [(4, pb b2), (5, .bool true)]) (by kernel_rfl) ?_
  refine oD ?_
  refine qT ?_
  refine CodT.ret ?_
  have hL23 := (ldBN ty29 (l := cA (Value.int .u8) x3) (o := 0) (cs := cA (Value.int .u8) x3) (ent_refl _) ((cA_length _ _).trans hl4) (whole _ _ ((cA_length _ _).trans hl4))) w hI
  have hI := hI.drop
  have hI := hI.drop
  have e := someS h0
  subst e
  refine qK [4, 5] (S' := [(4, pb b2), (5, .bool true)]) (by kernel_rfl) ?_
  exact post_ret (v := .tuple #[.agg (cA (Value.int .u8) x3).toArray, .bool true]) (fun a ha => RunRes.run (vs := [.agg (cA (Value.int .u8) x3).toArray, .bool true]) (.cell (t := 4) (T := 29) (ad := ⟨b2, 0, none⟩) (by kernel_rfl) hL23 (.tmp (t := 5) (by kernel_rfl) .nil)) ha (by kernel_rfl)) ⟨rfl, hl4, hI⟩
/-- cenotaph/chain.each -/
theorem c36 (w0 w : World) (Z : Hp) (A : HP) (hI : Inv w0 Z w A) (a0 : ByteArray) (A_a1 : Option Addr) (c_a1 : Nat) (a1 : (List ApiEvent)) (hr_a1 : RdS Z c_ApiEvent 37 A_a1 c_a1 a1) (b_a2 : Nat) (r : (ByteArray × (List ApiEvent))) (h0 : chain_each a0 a1 = some r) :
  Calls prog 36 #[.string a0, .slice A_a1 a1.length c_a1, pb b_a2] w (fun e w' => ∃ (b1 : Nat) (b2 : Nat) (A3 : Option Addr) (c3 : Nat) (b4 : Nat) (Z' : Hp), Z.le Z' ∧ e = .returned (.func (.func 52) #[] #[pb b1, pb b2, pb b4]) ∧ RdS Z' c_ApiEvent 37 A3 c3 r.2 ∧ Z' b2 = some (.cells ([.slice A3 r.2.length c3] : LV).toArray 22 (0, 0)) ∧ Z' b4 = some (.cells ([pb b_a2] : LV).toArray 76 (0, 0)) ∧ Inv w0 Z' w' (star (pt b1 (.cells ([.string r.1] : LV).toArray 9 (0, 0))) A)) := by
 have e4 := calls_intro (R := (fun e w' => ∃ (b1 : Nat) (b2 : Nat) (A3 : Option Addr) (c3 : Nat) (b4 : Nat) (Z' : Hp), Z.le Z' ∧ e = .returned (.func (.func 52) #[] #[pb b1, pb b2, pb b4]) ∧ RdS Z' c_ApiEvent 37 A3 c3 r.2 ∧ Z' b2 = some (.cells ([.slice A3 r.2.length c3] : LV).toArray 22 (0, 0)) ∧ Z' b4 = some (.cells ([pb b_a2] : LV).toArray 76 (0, 0)) ∧ Inv w0 Z' w' (star (pt b1 (.cells ([.string r.1] : LV).toArray 9 (0, 0))) A))) (w := w) (args := [.string a0, .slice A_a1 a1.length c_a1, pb b_a2]) (fn := Go.Proofs.Try.f36) 8 Go.Proofs.Try.func36 (by rfl) Go.Proofs.Try.ntmps36 (by kernel_rfl)
 refine e4 ?_
 clear e4
 unfold chain_each at h0
 refine cQ ?_
 refine cR [0, 1, 2, 3] (by kernel_rfl) ?_
 refine oC (Does.boxL (d := 3) (T := 9) (v := .string a0) ([.string a0] : LV) (by kernel_rfl) hI (by kernel_rfl) ?_)
 intro b1 w hI
 refine oC (Does.boxL (d := 4) (T := 22) (v := .slice A_a1 a1.length c_a1) ([.slice A_a1 a1.length c_a1] : LV) (by kernel_rfl) hI (by kernel_rfl) ?_)
 intro b2 w hI
 refine oC (Does.boxL (d := 5) (T := 76) (v := pb b_a2) ([pb b_a2] : LV) (by kernel_rfl) hI (by kernel_rfl) ?_)
 intro b3 w hI
 refine oP (r := []) [3] (S' := [(3, pb b1), (4, pb b2), (5, pb b3)]) (by kernel_rfl) ?_
 refine oD ?_
 refine qT ?_
 refine cQ ?_
 have hI := hI.mono (pick2 _ _ _)
 obtain ⟨Z4, hle5, hz6, hI⟩ := pt_freeze hI
 obtain ⟨Z7, hle8, hz9, hI⟩ := pt_freeze hI
 refine cR [0, 1] (by kernel_rfl) ?_
 refine oP (r := []) [0, 1] (S' := [(6, .func (.func 52) #[] #[pb b1, pb b2, pb b3])]) (by kernel_rfl) ?_
 refine oD ?_
 refine qT ?_
 refine CodT.ret ?_
 have e := someS h0
 subst e
 refine qK [6] (S' := [(6, .func (.func 52) #[] #[pb b1, pb b2, pb b3])]) (by kernel_rfl) ?_
 exact post_ret (v := .func (.func 52) #[] #[pb b1, pb b2, pb b3]) (fun a ha => RunRes.run (vs := [.func (.func 52) #[] #[pb b1, pb b2, pb b3]]) (.tmp (t := 6) (by kernel_rfl) .nil) ha (by kernel_rfl)) ⟨b1, b2, A_a1, c_a1, b3, Z7, (Hp.le_trans hle5 hle8), rfl, (hr_a1.mono (Hp.le_trans hle5 hle8)), (hle8 _ _ hz6), hz9, hI⟩
/-- cenotaph/chain.each$1 -/
theorem c52 (w0 w : World) (Z : Hp) (A : HP)  (l_a0 : Nat) {σ : Type} (J_a0 : σ → HP) (Y_a0 : σ → ByteArray → (List Int) → Option σ) (s_a0 : σ) (hy_a0 : ∀ (w : World) (Z' : Hp) (R : HP) (s : σ) (x0 : ByteArray) (x1 : (List Int)) (r : σ), x1.length = 32 → Z.le Z' → Y_a0 s x0 x1 = some r → Inv w0 Z' w (star (J_a0 s) R) → YAt prog l_a0 [.string x0, .agg (cA (Value.int .u8) x1).toArray] w (fun e w' => e = .returned (.bool true) ∧ Inv w0 Z' w' (star (J_a0 r) R))) (b_a1 : Nat) (ub : ByteArray) (b_a2 : Nat) (ua : Option Addr) (uf : Nat) (uc : (List ApiEvent)) (ug : RdS Z c_ApiEvent 37 ua uf uc) (hz_a2 : Z b_a2 = some (.cells ([.slice ua uc.length uf] : LV).toArray 22 (0, 0))) (b_a3 : Nat) (ue : Nat) (ud : Bool) (hz_a3 : Z b_a3 = some (.cells ([pb ue] : LV).toArray 76 (0, 0))) (hI : Inv w0 Z w (star (J_a0 s_a0) (star (pt b_a1 (.cells ([.string ub] : LV).toArray 9 (0, 0))) (star (pt ue (.cells ([.bool ud] : LV).toArray 4 (0, 0))) A)))) (r : (σ × ByteArray × Bool)) (h0 : chain_each_1 Y_a0 s_a0 ub uc ud = some r) :
  Calls prog 52 #[.func (.yield l_a0) #[] #[], pb b_a1, pb b_a2, pb b_a3] w (fun e w' => e = .returned (.tuple #[]) ∧ Inv w0 Z w' (star (J_a0 r.1) (star (pt b_a1 (.cells ([.string r.2.1] : LV).toArray 9 (0, 0))) (star (pt ue (.cells ([.bool r.2.2] : LV).toArray 4 (0, 0))) A)))) := by
 have e4 := calls_intro (R := (fun e w' => e = .returned (.tuple #[]) ∧ Inv w0 Z w' (star (J_a0 r.1) (star (pt b_a1 (.cells ([.string r.2.1] : LV).toArray 9 (0, 0))) (star (pt ue (.cells ([.bool r.2.2] : LV).toArray 4 (0, 0))) A))))) (w := w) (args := [.func (.yield l_a0) #[] #[], pb b_a1, pb b_a2, pb b_a3]) (fn := Go.Proofs.Try.f52) 43 Go.Proofs.Try.func52 (by rfl) Go.Proofs.Try.ntmps52 (by kernel_rfl)
 refine e4 ?_
 clear e4
 unfold chain_each_1 at h0
 refine cQ ?_
 refine cR [0, 1, 2, 3] (by kernel_rfl) ?_
 refine oC (Does.yi (Yl.load (d := 8) (T := 9) (v := .string ub) (by kernel_rfl) (ldB ty9 (l := ([.string ub] : LV)) (o := 0) (v := .string ub) (pick2 _ _ _) (by kernel_rfl))) hI ?_)
 obtain ⟨y2, hc1, h0⟩ := bindS h0
 try dsimp only at h0
 refine oC (Does.call (d := some 9) (n := 16) (vs := [.string ub]) (by kernel_rfl) en16 (c16 w0 w _ _ hI ub _ hc1) ?_)
 rintro e w ⟨rfl, hl3, hI⟩
 refine ⟨_, rfl, ?_⟩
 refine oC (Does.allocL (d := 5) (T := 29) (cA (Value.int .u8) (List.replicate 32 (0 : Int))) (by kernel_rfl) ty29 hI (by kernel_rfl) ?_)
 intro b4 w hI
 refine oC (Does.storeAll (T := 29) (b := b4) (n := 32) (xs := (List.replicate 32 (0 : Int))) (ys := y2) (by kernel_rfl) ty29 hI (fun _ => rfl) (by kernel_rfl) hl3 ?_)
 intro w hI
 refine oD ?_
 refine qT ?_
 refine cQ ?_
 refine cR [0] (by kernel_rfl) ?_
 refine oP (r := []) [0] (S' := [(0, .func (.yield l_a0) #[] #[]), (1, pb b_a1), (2, pb b_a2), (3, pb b_a3), (5, pb b4), (6, iv 0)]) (by kernel_rfl) ?_
 refine oD ?_
 refine qT ?_
 obtain ⟨r1, h1, h0⟩ := bindS h0
 refine CodT.meet1 (fun a w => False) ?_ ?_
 ·
  refine CodT.block ?_
  refine (fun a ha => wp_loopN (fun k a w => ∃ (x5 : Int) (x6 : (List Int)) (x8 : σ) (x9 : ByteArray) (x10 : Bool), chain_each_1.l0 Y_a0 uc k x5 x6 x8 x9 x10 = some r1 ∧ Fr 43 [(0, .func (.yield l_a0) #[] #[]), (1, pb b_a1), (2, pb b_a2), (3, pb b_a3), (5, pb b4), (6, iv x5)] a ∧ Inv w0 Z w (star (pt b4 (.cells (cA (Value.int .u8) x6).toArray 29 (0, 0))) (star (J_a0 x8) (star (pt b_a1 (.cells ([.string x9] : LV).toArray 9 (0, 0))) (star (pt ue (.cells ([.bool x10] : LV).toArray 4 (0, 0))) A)))) ∧ x6.length = 32) ?_ FU a w ⟨0, y2, s_a0, ub, ud, h1, ha.keep [0, 1, 2, 3, 5, 6] (by kernel_rfl), hI, hl3⟩)
  clear h1 hI
  rintro k a w ⟨x5, x6, x8, x9, x10, h1, ha, hI, hl7⟩
  rcases k with _ | k
  ·
   cases h1
  simp only [chain_each_1.l0] at h1
  refine CodT.of ?_ ha
  refine cQ ?_
  refine CodT.block ?_
  refine cQ ?_
  refine cQ ?_
  refine cR [0, 1, 2, 3, 4, 5, 6, 7, 8, 9, 10] (by kernel_rfl) ?_
  refine oP (r := [1, 2, 3, 4, 5, 6, 7, 8, 9, 10]) [0] (S' := [(0, .func (.yield l_a0) #[] #[]), (1, pb b_a1), (2, pb b_a2), (3, pb b_a3), (5, pb b4), (6, iv x5), (12, .func (.yield l_a0) #[] #[])]) (by kernel_rfl) ?_
  refine oC (Does.yi (Yl.load (d := 13) (T := 9) (v := .string x9) (by kernel_rfl) (ldB ty9 (l := ([.string x9] : LV)) (o := 0) (v := .string x9) (pick3 _ _ _ _) (by kernel_rfl))) hI ?_)
  refine oC (Does.yi (Yl.load (d := 14) (T := 29) (v := .agg (cA (Value.int .u8) x6).toArray) (by kernel_rfl) (ldBN ty29 (l := cA (Value.int .u8) x6) (o := 0) (cs := cA (Value.int .u8) x6) (ent_refl _) ((cA_length _ _).trans hl7) (whole _ _ ((cA_length _ _).trans hl7)))) hI ?_)
  have hI := hI.mono (pick2 _ _ _)
  obtain ⟨y11, hc12, h1⟩ := bindS h1
  try dsimp only at h1
  refine oC (Does.yieldCall (d := some 15) (l := l_a0) (vs := [.string x9, .agg (cA (Value.int .u8) x6).toArray]) (by kernel_rfl) (hy_a0 w Z _ x8 x9 x6 y11 hl7 (Hp.le_refl _) hc12 hI) ?_)
  rintro e w ⟨rfl, hI⟩
  refine ⟨_, rfl, ?_⟩
  refine oP (r := [7, 8, 9, 10]) [4, 5, 6] (S' := [(0, .func (.yield l_a0) #[] #[]), (1, pb b_a1), (2, pb b_a2), (3, pb b_a3), (5, pb b4), (6, iv x5), (17, .bool false), (18, iv x5)]) (by kernel_rfl) ?_
  refine oC (Does.yi (Yl.load (d := 19) (T := 22) (v := .slice ua uc.length uf) (by kernel_rfl) (ldZ ty22 (l := ([.slice ua uc.length uf] : LV)) (o := 0) (v := .slice ua uc.length uf) hz_a2 (by kernel_rfl))) hI ?_)
  refine oP (r := []) [8, 9, 10] (S' := [(0, .func (.yield l_a0) #[] #[]), (1, pb b_a1), (2, pb b_a2), (3, pb b_a3), (5, pb b4), (6, iv x5), (22, .bool (x5 == (uc.length : Int)))]) (by kernel_rfl) ?_
  refine oD ?_
  refine qT ?_
  by_cases hb13 : (x5 == (uc.length : Int)) = true
  ·
   rw [if_pos hb13] at h1
   refine CodT.yes' (b := x5 == (uc.length : Int)) (by kernel_rfl) hb13 ?_
   refine CodT.ret ?_
   refine Qn.ret_then ?_
   refine Qn.block_ret ?_
   refine Qn.ret_then ?_
   refine Qn.ret_then ?_
   refine Qn.block_ret ?_
   refine Qn.ret_then ?_
   have hI := hI.mono (pick2 _ _ _)
   have hI := hI.drop
   have e := someS h1
   subst e
   try dsimp only at h0
   have e := someS h0
   subst e
   refine qK [] (S' := []) (by kernel_rfl) ?_
   exact post_ret (v := .tuple #[]) (fun a ha => RunRes.run (vs := []) .nil ha (by kernel_rfl)) ⟨rfl, hI⟩
  ·
   rw [if_neg hb13] at h1
   refine CodT.no' (b := x5 == (uc.length : Int)) (by kernel_rfl) (by simpa using hb13) ?_
   refine CodT.skip ?_
   refine qT ?_
   refine cQ ?_
   refine cR [0] (by kernel_rfl) ?_
   refine oP (r := []) [0] (S' := [(0, .func (.yield l_a0) #[] #[]), (1, pb b_a1), (2, pb b_a2), (3, pb b_a3), (5, pb b4), (6, iv x5)]) (by kernel_rfl) ?_
   refine oD ?_
   refine qT ?_
   refine cQ ?_
   refine CodT.drawI (n := 12) [11] (by kernel_rfl) (by kernel_rfl) hI ?_
   intro w hI
   refine GmT.p' 2 26 (iv x5) (by kernel_rfl) (by kernel_rfl) ?_
   refine GmT.r (i := 0) 2 (by kernel_rfl) (by kernel_rfl) (Yl.load (d := 24) (T := 76) (v := pb ue) (by kernel_rfl) (ldZ ty76 (l := ([pb ue] : LV)) (o := 0) (v := pb ue) hz_a3 (by kernel_rfl))) hI ?_
   refine GmT.r (i := 1) 2 (by kernel_rfl) (by kernel_rfl) (Yl.load (d := 25) (T := 22) (v := .slice ua uc.length uf) (by kernel_rfl) (ldZ ty22 (l := ([.slice ua uc.length uf] : LV)) (o := 0) (v := .slice ua uc.length uf) hz_a2 (by kernel_rfl))) hI ?_
   obtain ⟨hg14, h1⟩ := guardS h1
   obtain ⟨g15, o19, hA16, hr17, hl18⟩ := RdS.get ug hg14.1 hg14.2
   refine GmT.r (i := 3) 2 (by kernel_rfl) (by kernel_rfl) (Yl.indexSlice (d := 27) (T := 22) (cc := uf) (k := .i64) (j := x5) (g := g15) (o := o19) (by kernel_rfl) Go.Proofs.Try.underlying22 ty42 hA16 hg14.1 hg14.2) hI ?_
   refine GmT.r (i := 4) 2 (by kernel_rfl) (by kernel_rfl) (Yl.load (d := 28) (T := 42) (v := .agg (c_ApiEvent (gt uc x5)).toArray) (by kernel_rfl) (ldRN ty42 (cs := c_ApiEvent (gt uc x5)) 0 (fun w hC => hr17 w0 w _ hC) hl18 (whole _ _ hl18))) hI ?_
   obtain ⟨⟨y21, y22⟩, hc20, h1⟩ := bindS h1
   try dsimp only at h1
   refine GmT.o (i := 5) (by kernel_rfl) (Does.call (d := some 29) (n := 34) (vs := [.agg (c_ApiEvent (gt uc x5)).toArray]) (by kernel_rfl) en34 (c34 w0 w _ _ hI (gt uc x5) (inv_ApiEvent _ hl18) _ hc20) ?_)
   rintro e w ⟨rfl, hI⟩
   refine ⟨_, rfl, ?_⟩
   refine ⟨fun _ _ => hI, ?_⟩
   refine GmT.p' 6 23 (.tuple #[.string y21, .bool y22]) (by kernel_rfl) (by kernel_rfl) ?_
   refine GmT.p' 7 30 (.string y21) (by kernel_rfl) (by kernel_rfl) ?_
   refine GmT.p' 8 31 (.bool y22) (by kernel_rfl) (by kernel_rfl) ?_
   refine GmT.p' 9 7 (.string y21) (by kernel_rfl) (by kernel_rfl) ?_
   refine GmT.p' 10 32 (pb ue) (by kernel_rfl) (by kernel_rfl) ?_
   have hI := hI.mono (pick4 _ _ _ _ _)
   refine GmT.o (i := 11) (by kernel_rfl) (dS (T := 4) (b := ue) (o := 0) (v := .bool y22) (l := ([.bool x10] : LV)) (vs := ([.bool y22] : LV)) (L' := ([.bool y22] : LV)) (by kernel_rfl) ty4 hI (by kernel_rfl) (by kernel_rfl) (by kernel_rfl) (by kernel_rfl) (by kernel_rfl) ?_)
   intro w hI
   refine ⟨fun h => absurd h (by decide), ?_⟩
   refine GmT.done (by kernel_rfl) ?_
   refine qT ?_
   refine cQ ?_
   refine cQ ?_
   refine cR [0, 1, 2, 3] (by kernel_rfl) ?_
   refine oC (Does.yi (Yl.load (d := 33) (T := 76) (v := pb ue) (by kernel_rfl) (ldZ ty76 (l := ([pb ue] : LV)) (o := 0) (v := pb ue) hz_a3 (by kernel_rfl))) hI ?_)
   refine oP (r := [2, 3]) [1] (S' := [(0, .func (.yield l_a0) #[] #[]), (1, pb b_a1), (2, pb b_a2), (3, pb b_a3), (5, pb b4), (6, iv x5), (7, .string y21), (34, pb ue)]) (by kernel_rfl) ?_
   refine oC (Does.yi (Yl.load (d := 35) (T := 4) (v := .bool y22) (by kernel_rfl) (ldB ty4 (l := ([.bool y22] : LV)) (o := 0) (v := .bool y22) (ent_refl _) (by kernel_rfl))) hI ?_)
   refine oP (r := []) [3] (S' := [(0, .func (.yield l_a0) #[] #[]), (1, pb b_a1), (2, pb b_a2), (3, pb b_a3), (5, pb b4), (6, iv x5), (7, .string y21), (36, .bool (!y22))]) (by kernel_rfl) ?_
   refine oD ?_
   refine qT ?_
   by_cases hb23 : (!y22) = true
   ·
    rw [if_pos hb23] at h1
    refine CodT.yes' (b := !y22) (by kernel_rfl) hb23 ?_
    refine CodT.ret ?_
    refine Qn.ret_then ?_
    refine Qn.block_ret ?_
    refine Qn.ret_then ?_
    refine Qn.ret_then ?_
    refine Qn.block_ret ?_
    refine Qn.ret_then ?_
    have hI := hI.mono (pick3 _ _ _ _)
    have hI := hI.drop
    have hI := hI.mono (pick3 _ _ _ _)
    have hI := hI.mono (pick3 _ _ _ _)
    have e := someS h1
    subst e
    try dsimp only at h0
    have e := someS h0
    subst e
    refine qK [] (S' := []) (by kernel_rfl) ?_
    exact post_ret (v := .tuple #[]) (fun a ha => RunRes.run (vs := []) .nil ha (by kernel_rfl)) ⟨rfl, hI⟩
   ·
    rw [if_neg hb23] at h1
    refine CodT.no' (b := !y22) (by kernel_rfl) (by simpa using hb23) ?_
    refine CodT.skip ?_
    refine qT ?_
    refine cQ ?_
    refine cR [0, 1, 2, 3, 4] (by kernel_rfl) ?_
    refine oP (r := [1, 2, 3, 4]) [0] (S' := [(0, .func (.yield l_a0) #[] #[]), (1, pb b_a1), (2, pb b_a2), (3, pb b_a3), (5, pb b4), (6, iv x5), (7, .string y21), (37, .slice (some ⟨b4, 0, none⟩) 32 32)]) (by kernel_rfl) ?_
    refine oC (Does.yi (Yl.b2sV (d := 38) (src := 45) (dst := 9) (g := b4) (o := 0) (c := 32) (n := 32) (xs := x6) (by kernel_rfl) Go.Proofs.Try.underlying45 Go.Proofs.Try.underlying5 Go.Proofs.Try.underlying9 hl7 (fun w hC => range_at (hC.mono (pick3 _ _ _ _)).block (fun j v hv => by simpa using hv))) hI ?_)
    refine oP (r := [3, 4]) [2] (S' := [(0, .func (.yield l_a0) #[] #[]), (1, pb b_a1), (2, pb b_a2), (3, pb b_a3), (5, pb b4), (6, iv x5), (38, .string (strOfNums x6)), (39, .string y21)]) (by kernel_rfl) ?_
    obtain ⟨hg24, h1⟩ := guardS h1
    refine oC (Does.yi (Yl.cat (d := 40) (T := 9) (x := strOfNums x6) (y := y21) (by kernel_rfl) hg24) hI ?_)
    have hI := hI.mono (pick4 _ _ _ _ _)
    refine oC (dS (T := 9) (b := b_a1) (o := 0) (v := .string ((strOfNums x6) ++ y21)) (l := ([.string x9] : LV)) (vs := ([.string ((strOfNums x6) ++ y21)] : LV)) (L' := ([.string ((strOfNums x6) ++ y21)] : LV)) (by kernel_rfl) ty9 hI (by kernel_rfl) (by kernel_rfl) (by kernel_rfl) (by kernel_rfl) (by kernel_rfl) ?_)
    intro w hI
    refine oD ?_
    refine qT ?_
    refine cR [0, 1, 2] (by kernel_rfl) ?_
    refine oC (Does.yi (Yl.load (d := 41) (T := 9) (v := .string ((strOfNums x6) ++ y21)) (by kernel_rfl) (ldB ty9 (l := ([.string ((strOfNums x6) ++ y21)] : LV)) (o := 0) (v := .string ((strOfNums x6) ++ y21)) (ent_refl _) (by kernel_rfl))) hI ?_)
    obtain ⟨y26, hc25, h1⟩ := bindS h1
    try dsimp only at h1
    refine oC (Does.call (d := some 42) (n := 16) (vs := [.string ((strOfNums x6) ++ y21)]) (by kernel_rfl) en16 (c16 w0 w _ _ hI ((strOfNums x6) ++ y21) _ hc25) ?_)
    rintro e w ⟨rfl, hl27, hI⟩
    refine ⟨_, rfl, ?_⟩
    have hI := hI.mono (pick4 _ _ _ _ _)
    refine oC (Does.storeAll (T := 29) (b := b4) (n := 32) (xs := x6) (ys := y26) (by kernel_rfl) ty29 hI (fun _ => rfl) hl7 hl27 ?_)
    intro w hI
    refine oD ?_
    refine Qn.block_normal ?_
    refine qT ?_
    refine cR [0, 1, 2] (by kernel_rfl) ?_
    refine oP (r := []) [0, 1, 2] (S' := [(0, .func (.yield l_a0) #[] #[]), (1, pb b_a1), (2, pb b_a2), (3, pb b_a3), (5, pb b4), (6, iv (wi64 (x5 + 1)))]) (by kernel_rfl) ?_
    refine oD ?_
    have hI := hI.mono (pick3 _ _ _ _)
    have hI := hI.mono (pick3 _ _ _ _)
    have hI := hI.mono (pick4 _ _ _ _ _)
    have hI := hI.mono (pick4 _ _ _ _ _)
    exact Qn.thenJ fun a ha => ⟨k, Nat.lt_succ_self k, wi64 (x5 + 1), y26, y11, (strOfNums x6) ++ y21, y22, h1, ha.keep [0, 1, 2, 3, 5, 6] (by kernel_rfl), hI, hl27⟩
 ·
  intro a w h; exact h.elim
/-- cenotaph/chain.both -/
theorem c21 (w0 w : World) (Z : Hp) (A : HP) (hI : Inv w0 Z w A) (A_a0 : Option Addr) (c_a0 : Nat) (a0 : (List ApiEvent)) (hr_a0 : RdS Z c_ApiEvent 37 A_a0 c_a0 a0) (r : ((List ByteArray) × (List (List Int)))) (h0 : chain_both a0 = some r) :
  Calls prog 21 #[.slice A_a0 a0.length c_a0] w (fun e w' => ∃ (A1 : Option Addr) (c1 : Nat) (A2 : Option Addr) (c2 : Nat), e = .returned (.tuple #[.slice A1 r.1.length c1, .slice A2 r.2.length c2]) ∧ Inv w0 Z w' (star (ownS 9 cS 1 A1 c1 r.1) (star (ownS 29 (cA (Value.int .u8)) 32 A2 c2 r.2) A))) := by
 have e4 := calls_introM (R := (fun e w' => ∃ (A1 : Option Addr) (c1 : Nat) (A2 : Option Addr) (c2 : Nat), e = .returned (.tuple #[.slice A1 r.1.length c1, .slice A2 r.2.length c2]) ∧ Inv w0 Z w' (star (ownS 9 cS 1 A1 c1 r.1) (star (ownS 29 (cA (Value.int .u8)) 32 A2 c2 r.2) A)))) (w := w) (args := [.slice A_a0 a0.length c_a0]) (fn := Go.Proofs.Try.f21) 25 Go.Proofs.Try.func21 (by rfl) Go.Proofs.Try.ntmps21 (by kernel_rfl)
 refine e4 ?_
 clear e4
 unfold chain_both at h0
 refine cQ ?_
 refine cR [0, 1] (by kernel_rfl) ?_
 refine oP (r := []) [0, 1] (S' := [(0, .slice A_a0 a0.length c_a0)]) (by kernel_rfl) ?_
 refine oD ?_
 refine qT ?_
 refine cQ ?_
 refine cR [0] (by kernel_rfl) ?_
 refine oC (Does.allocL (d := 4) (T := 47) ([.slice none 0 0] : LV) (by kernel_rfl) ty47 hI (by kernel_rfl) ?_)
 intro b1 w hI
 refine oD ?_
 refine qT ?_
 refine cQ ?_
 refine cR [0] (by kernel_rfl) ?_
 refine oC (Does.allocL (d := 5) (T := 32) ([.slice none 0 0] : LV) (by kernel_rfl) ty32 hI (by kernel_rfl) ?_)
 intro b2 w hI
 refine oD ?_
 refine qT ?_
 refine cQ ?_
 refine cR [0, 1] (by kernel_rfl) ?_
 refine oC (Does.allocL (d := 6) (T := 4) ([.bool false] : LV) (by kernel_rfl) ty4 hI (by kernel_rfl) ?_)
 intro b3 w hI
 refine oC (dS (T := 4) (b := b3) (o := 0) (v := .bool true) (l := ([.bool false] : LV)) (vs := ([.bool true] : LV)) (L' := ([.bool true] : LV)) (by kernel_rfl) ty4 hI (by kernel_rfl) (by kernel_rfl) (by kernel_rfl) (by kernel_rfl) (by kernel_rfl) ?_)
 intro w hI
 refine oD ?_
 refine qT ?_
 refine cQ ?_
 refine cQ ?_
 refine cR [0, 1] (by kernel_rfl) ?_
 refine oP (r := [1]) [0] (S' := [(4, pb b1), (5, pb b2), (6, pb b3), (9, .slice A_a0 a0.length c_a0)]) (by kernel_rfl) ?_
 obtain ⟨⟨y6, y8⟩, hc4, h0⟩ := bindS h0
 try dsimp only at h0
 refine oC (Does.call (d := some 10) (n := 36) (vs := [.string (⟨#[99, 101, 110, 111, 116, 97, 112, 104]⟩ : ByteArray), .slice A_a0 a0.length c_a0, pb b3]) (by kernel_rfl) en36 (c36 w0 w _ _ hI (⟨#[99, 101, 110, 111, 116, 97, 112, 104]⟩ : ByteArray) A_a0 c_a0 a0 hr_a0 b3 _ hc4) ?_)
 rintro e w ⟨b5, b7, A9, cp10, b13, Z15, hle16, rfl, hr11, hz12, hz14, hI⟩
 refine ⟨_, rfl, ?_⟩
 refine oD ?_
 refine qT ?_
 refine CodT.block ?_
 have hI := ownS_nil (α := (List Int)) hI 29 (cA (Value.int .u8)) 32
 have hI := ownS_nil (α := ByteArray) hI 9 cS 1
 refine CodT.rangeFn (f := 52) (cp := [pb b5, pb b7, pb b13]) (by kernel_rfl) en52 hI ?_
 intro ac25 l23 rr24 w rc26 fn27 hrc28 ha29 hI
 obtain ⟨J30, hJ31⟩ : ∃ J : ((List (List Int)) × (List ByteArray)) → HP, J = fun s => match s with | (x17, x20) => (hpEx fun (A18 : Option Addr) => (hpEx fun (cp19 : Nat) => (hpEx fun (A21 : Option Addr) => (hpEx fun (cp22 : Nat) => (star (ownS 29 (cA (Value.int .u8)) 32 A18 cp19 x17) (star (pt b2 (.cells ([.slice A18 x17.length cp19] : LV).toArray 32 (0, 0))) (star (ownS 9 cS 1 A21 cp22 x20) (star (pt b1 (.cells ([.slice A21 x20.length cp22] : LV).toArray 47 (0, 0))) (pt l23 (rc26 .ready)))))))))) := ⟨_, rfl⟩
 have hY32 : ∀ (w : World) (Z' : Hp) (R : HP) (s : ((List (List Int)) × (List ByteArray))) (y33 : ByteArray) (y34 : (List Int)) (r : ((List (List Int)) × (List ByteArray))), y34.length = 32 → Z15.le Z' → chain_both.y1 s y33 y34 = some r → Inv w0 Z' w (star (J30 s) R) → YAt prog l23 [.string y33, .agg (cA (Value.int .u8) y34).toArray] w (fun e w' => e = .returned (.bool true) ∧ Inv w0 Z' w' (star (J30 r) R)) := by
  rintro w Z2 R ⟨x17, x20⟩ y33 y34 r_ hl35 hle2 h1 hI
  rw [hJ31] at hI ⊢
  dsimp only at hI ⊢
  unfold chain_both.y1 at h1
  try dsimp only at h1
  obtain ⟨A18, hI⟩ := hI.exo
  obtain ⟨cp19, hI⟩ := hI.exo
  obtain ⟨A21, hI⟩ := hI.exo
  obtain ⟨cp22, hI⟩ := hI.exo
  have hI := hI.mono (ung5 _ _ _ _ _ _)
  have hI := hI.mono (pick5 _ _ _ _ _ _)
  refine YAt.roundN hrc28 hI rfl ha29 (by kernel_rfl) ?_
  refine CodT.keep [4, 5, 11, 12] (S' := [(4, pb b1), (5, pb b2), (11, .string y33), (12, .agg (cA (Value.int .u8) y34).toArray)]) (by kernel_rfl) ?_
  refine cQ ?_
  refine cR [0] (by kernel_rfl) ?_
  refine oP (r := []) [0] (S' := [(4, pb b1), (5, pb b2), (7, .string y33), (12, .agg (cA (Value.int .u8) y34).toArray)]) (by kernel_rfl) ?_
  refine oD ?_
  refine qT ?_
  refine cR [0, 1] (by kernel_rfl) ?_
  refine oC (Does.allocL (d := 8) (T := 29) (cA (Value.int .u8) (List.replicate 32 (0 : Int))) (by kernel_rfl) ty29 hI (by kernel_rfl) ?_)
  intro b36 w hI
  refine oC (Does.storeAll (T := 29) (b := b36) (n := 32) (xs := (List.replicate 32 (0 : Int))) (ys := y34) (by kernel_rfl) ty29 hI (fun _ => rfl) (by kernel_rfl) hl35 ?_)
  intro w hI
  refine oD ?_
  have hI := hI.mono (pick2 _ _ _)
  refine Qn.thenJ fun a ha => ⟨_, _, hI, fun w hI => ?_⟩
  refine CodT.of ?_ ha
  refine CodT.block ?_
  refine cQ ?_
  refine cR [0, 1, 2, 3, 4] (by kernel_rfl) ?_
  refine oC (Does.yi (Yl.load (d := 13) (T := 47) (v := .slice A21 x20.length cp22) (by kernel_rfl) (ldB ty47 (l := ([.slice A21 x20.length cp22] : LV)) (o := 0) (v := .slice A21 x20.length cp22) (pick6 _ _ _ _ _ _ _) (by kernel_rfl))) hI ?_)
  refine oP (r := [2, 3, 4]) [1] (S' := [(4, pb b1), (5, pb b2), (8, pb b36), (13, .slice A21 x20.length cp22), (14, .string y33)]) (by kernel_rfl) ?_
  refine oC (Does.buildSlice (en := cS) (d := 15) (n := 1) (T := 47) (ps := [(0, .string y33)]) ([y33] : List ByteArray) (by kernel_rfl) Go.Proofs.Try.underlying47 ty9 (by kernel_rfl) (by kernel_rfl) (by kernel_rfl) (by kernel_rfl) (len_all (fun _ => rfl)) hI ?_)
  intro b37 w hI
  obtain ⟨hg38, h1⟩ := guardS h1
  have hI := hI.mono (pick6 _ _ _ _ _ _ _)
  refine oC (Does.append (d := 16) (t := 47) (tx := 47) (ty := 47) (ys := x20) (zs := ([y33] : List ByteArray)) (x := .slice (some ⟨b37, 0, none⟩) (([y33] : List ByteArray).length) 1) (by kernel_rfl) Go.Proofs.Try.underlying47 ty9 (by kernel_rfl) hI (src_own Go.Proofs.Try.underlying47 (hI.mono (pick2 _ _ _)) (one_flat _ (fun _ => rfl))) (ownS_facts (hI.mono (pick2 _ _ _))).2.2 (by unfold LIM at hg38; omega) hg38 ?_)
  intro A39 cp40 w hI
  have hI := hI.mono (pick7 _ _ _ _ _ _ _ _)
  refine oC (dS (T := 47) (b := b1) (o := 0) (v := .slice A39 ((x20 ++ ([y33] : List ByteArray)).length) cp40) (l := ([.slice A21 x20.length cp22] : LV)) (vs := ([.slice A39 ((x20 ++ ([y33] : List ByteArray)).length) cp40] : LV)) (L' := ([.slice A39 ((x20 ++ ([y33] : List ByteArray)).length) cp40] : LV)) (by kernel_rfl) ty47 hI (by kernel_rfl) (by kernel_rfl) (by kernel_rfl) (by kernel_rfl) (by kernel_rfl) ?_)
  intro w hI
  refine oD ?_
  refine qT ?_
  refine cR [0, 1, 2, 3, 4] (by kernel_rfl) ?_
  refine oC (Does.yi (Yl.load (d := 17) (T := 32) (v := .slice A18 x17.length cp19) (by kernel_rfl) (ldB ty32 (l := ([.slice A18 x17.length cp19] : LV)) (o := 0) (v := .slice A18 x17.length cp19) (pick7 _ _ _ _ _ _ _ _) (by kernel_rfl))) hI ?_)
  refine oC (Does.yi (Yl.load (d := 18) (T := 29) (v := .agg (cA (Value.int .u8) y34).toArray) (by kernel_rfl) (ldBN ty29 (l := cA (Value.int .u8) y34) (o := 0) (cs := cA (Value.int .u8) y34) (pick5 _ _ _ _ _ _) ((cA_length _ _).trans hl35) (whole _ _ ((cA_length _ _).trans hl35)))) hI ?_)
  refine oC (Does.buildSliceAll (en := (cA (Value.int .u8))) (d := 19) (n := 1) (T := 32) (ps := [(0, .agg (cA (Value.int .u8) y34).toArray)]) (fun y => .agg ((cA (Value.int .u8)) y).toArray) (fun _ => rfl) ([y34] : List (List Int)) (by kernel_rfl) rfl Go.Proofs.Try.underlying32 ty29 rfl (by kernel_rfl) (by kernel_rfl) (by decide +kernel) (List.forall_mem_cons.2 ⟨((cA_length _ _).trans hl35), (fun _ h => by cases h)⟩) hI ?_)
  intro b41 w hI
  obtain ⟨hg42, h1⟩ := guardS h1
  have hI := hI.mono (pick7 _ _ _ _ _ _ _ _)
  refine oC (Does.append (d := 20) (t := 32) (tx := 32) (ty := 32) (ys := x17) (zs := ([y34] : List (List Int))) (x := .slice (some ⟨b41, 0, none⟩) (([y34] : List (List Int)).length) 1) (by kernel_rfl) Go.Proofs.Try.underlying32 ty29 (by kernel_rfl) hI (src_own Go.Proofs.Try.underlying32 (hI.mono (pick2 _ _ _)) (one_flat _ (fun u => ones_cA u))) (ownS_facts (hI.mono (pick2 _ _ _))).2.2 (by unfold LIM at hg42; omega) hg42 ?_)
  intro A43 cp44 w hI
  have hI := hI.mono (pick8 _ _ _ _ _ _ _ _ _)
  refine oC (dS (T := 32) (b := b2) (o := 0) (v := .slice A43 ((x17 ++ ([y34] : List (List Int))).length) cp44) (l := ([.slice A18 x17.length cp19] : LV)) (vs := ([.slice A43 ((x17 ++ ([y34] : List (List Int))).length) cp44] : LV)) (L' := ([.slice A43 ((x17 ++ ([y34] : List (List Int))).length) cp44] : LV)) (by kernel_rfl) ty32 hI (by kernel_rfl) (by kernel_rfl) (by kernel_rfl) (by kernel_rfl) (by kernel_rfl) ?_)
  intro w hI
  refine oD ?_
  refine Qn.block_normal ?_
  have hI := hI.mono (pick3 _ _ _ _)
  have hI := hI.drop
  have hI := hI.mono (pick5 _ _ _ _ _ _)
  have hI := hI.drop
  have hI := hI.mono (pick6 _ _ _ _ _ _ _)
  have hI := hI.drop
  have hI := hI.mono (pick5 _ _ _ _ _ _)
  have hI := hI.mono (pick4 _ _ _ _ _)
  have hI := hI.mono (pick5 _ _ _ _ _ _)
  have hI := hI.mono (pick4 _ _ _ _ _)
  have hI := hI.mono (pick5 _ _ _ _ _ _)
  have e := someS h1
  subst e
  have hI := hI.mono (pick5 _ _ _ _ _ _)
  refine Qn.roundN hrc28 hI ?_
  intro w hI
  refine ⟨rfl, ?_⟩
  have hI := hI.mono (pick5 _ _ _ _ _ _)
  have hI := hI.mono (pick5 _ _ _ _ _ _)
  have hI := hI.mono (pick5 _ _ _ _ _ _)
  have hI := hI.mono (pick5 _ _ _ _ _ _)
  have hI := hI.mono (grp5 _ _ _ _ _ _)
  exact (Inv.exc A43 (Inv.exc cp44 (Inv.exc A39 (Inv.exc cp40 hI))))
 have hI := hI.mono (pick8 _ _ _ _ _ _ _ _ _)
 have hI := hI.mono (pick4 _ _ _ _ _)
 have hI := hI.mono (pick8 _ _ _ _ _ _ _ _ _)
 have hI := hI.mono (pick6 _ _ _ _ _ _ _)
 have hI := hI.mono (grp5 _ _ _ _ _ _)
 replace hI : Inv w0 Z15 w (star (J30 (([] : List (List Int)), ([] : List ByteArray))) (star (pt rr24 (.deferred (some []))) (star (pt b5 (.cells ([.string y6] : LV).toArray 9 (0, 0))) (star (pt b3 (.cells ([.bool true] : LV).toArray 4 (0, 0))) A)))) := by rw [hJ31]; exact (Inv.exc none (Inv.exc 0 (Inv.exc none (Inv.exc 0 hI))))
 have hI := hI.mono (pick4 _ _ _ _ _)
 have hI := hI.mono (pick4 _ _ _ _ _)
 have hI := hI.mono (pick3 _ _ _ _)
 obtain ⟨⟨y45, y46, y47⟩, hc48, h0⟩ := bindS h0
 try dsimp only at h0
 refine Calls.mono (c52 w0 w _ _ l23 J30 chain_both.y1 (([] : List (List Int)), ([] : List ByteArray)) hY32 b5 y6 b7 A9 cp10 y8 hr11 hz12 b13 b3 true hz14 hI _ hc48) ?_
 rintro e w ⟨rfl, hI⟩
 obtain ⟨x49, x50⟩ := y45
 rw [hJ31] at hI
 dsimp only at hI
 try dsimp only at h0
 obtain ⟨A51, hI⟩ := hI.exo
 obtain ⟨cp52, hI⟩ := hI.exo
 obtain ⟨A53, hI⟩ := hI.exo
 obtain ⟨cp54, hI⟩ := hI.exo
 have hI := hI.mono (ung5 _ _ _ _ _ _)
 have hI := hI.mono (pick5 _ _ _ _ _ _)
 refine ⟨_, _, _, rfl, hI, ?_⟩
 intro w hI
 refine Qn.block_normal ?_
 refine qT ?_
 refine cQ ?_
 refine cQ ?_
 refine cR [0, 1] (by kernel_rfl) ?_
 refine oC (Does.yi (Yl.load (d := 21) (T := 4) (v := .bool y47) (by kernel_rfl) (ldB ty4 (l := ([.bool y47] : LV)) (o := 0) (v := .bool y47) (pick6 _ _ _ _ _ _ _) (by kernel_rfl))) hI ?_)
 refine oP (r := []) [1] (S' := [(4, pb b1), (5, pb b2), (22, .bool (!y47))]) (by kernel_rfl) ?_
 refine oD ?_
 refine qT ?_
 by_cases hb55 : (!y47) = true
 ·
  rw [if_pos hb55] at h0
  refine CodT.yes' (b := !y47) (by kernel_rfl) hb55 ?_
  refine cQ ?_
  refine cR [0, 1] (by kernel_rfl) ?_
  refine oP (r := []) [0, 1] (S' := [(2, .slice none 0 0), (3, .slice none 0 0)]) (by kernel_rfl) ?_
  refine oD ?_
  refine qT ?_
  refine CodT.ret ?_
  refine Qn.ret_then ?_
  have hI := ownS_nil (α := ByteArray) hI 9 cS 1
  have hI := ownS_nil (α := (List Int)) hI 29 (cA (Value.int .u8)) 32
  have hI := hI.mono (pick9 _ _ _ _ _ _ _ _ _ _)
  refine post_mark hI ?_
  intro w hI
  have hI := hI.mono (pick3 _ _ _ _)
  have hI := hI.drop
  have hI := hI.mono (pick3 _ _ _ _)
  have hI := hI.drop
  have hI := hI.mono (pick3 _ _ _ _)
  have hI := hI.drop
  have hI := hI.mono (pick3 _ _ _ _)
  have hI := hI.drop
  have hI := hI.mono (pick3 _ _ _ _)
  have hI := hI.drop
  have hI := hI.mono (pick3 _ _ _ _)
  have hI := hI.drop
  have hI := hI.mono (pick2 _ _ _)
  have e := someS h0
  subst e
  refine qK [2, 3] (S' := [(2, .slice none 0 0), (3, .slice none 0 0)]) (by kernel_rfl) ?_
  exact post_retM (v := .tuple #[.slice none 0 0, .slice none 0 0]) (fun a ha => RunRes.run (vs := [.slice none 0 0, .slice none 0 0]) (.tmp (t := 2) (by kernel_rfl) (.tmp (t := 3) (by kernel_rfl) .nil)) ha (by kernel_rfl)) ⟨none, 0, none, 0, rfl, hI.weaken hle16⟩
 ·
  rw [if_neg hb55] at h0
  refine CodT.no' (b := !y47) (by kernel_rfl) (by simpa using hb55) ?_
  refine CodT.skip ?_
  refine qT ?_
  refine cQ ?_
  refine CodT.drawI (n := 4) [] (by kernel_rfl) (by kernel_rfl) hI ?_
  intro w hI
  refine GmT.r (i := 0) 2 (by kernel_rfl) (by kernel_rfl) (Yl.load (d := 23) (T := 47) (v := .slice A53 x50.length cp54) (by kernel_rfl) (ldB ty47 (l := ([.slice A53 x50.length cp54] : LV)) (o := 0) (v := .slice A53 x50.length cp54) (pick4 _ _ _ _ _) (by kernel_rfl))) hI ?_
  refine GmT.p' 2 2 (.slice A53 x50.length cp54) (by kernel_rfl) (by kernel_rfl) ?_
  refine GmT.r (i := 1) 2 (by kernel_rfl) (by kernel_rfl) (Yl.load (d := 24) (T := 32) (v := .slice A51 x49.length cp52) (by kernel_rfl) (ldB ty32 (l := ([.slice A51 x49.length cp52] : LV)) (o := 0) (v := .slice A51 x49.length cp52) (pick2 _ _ _) (by kernel_rfl))) hI ?_
  refine GmT.p' 3 3 (.slice A51 x49.length cp52) (by kernel_rfl) (by kernel_rfl) ?_
  refine GmT.done (by kernel_rfl) ?_
  refine qT ?_
  refine CodT.ret ?_
  have hI := hI.mono (pick7 _ _ _ _ _ _ _ _)
  refine post_mark hI ?_
  intro w hI
  have hI := hI.mono (pick2 _ _ _)
  have hI := hI.drop
  have hI := hI.mono (pick3 _ _ _ _)
  have hI := hI.drop
  have hI := hI.mono (pick3 _ _ _ _)
  have hI := hI.drop
  have hI := hI.mono (pick3 _ _ _ _)
  have hI := hI.drop
  have hI := hI.mono (pick2 _ _ _)
  have e := someS h0
  subst e
  refine qK [2, 3] (S' := [(2, .slice A53 x50.length cp54), (3, .slice A51 x49.length cp52)]) (by kernel_rfl) ?_
  exact post_retM (v := .tuple #[.slice A53 x50.length cp54, .slice A51 x49.length cp52]) (fun a ha => RunRes.run (vs := [.slice A53 x50.length cp54, .slice A51 x49.length cp52]) (.tmp (t := 2) (by kernel_rfl) (.tmp (t := 3) (by kernel_rfl) .nil)) ha (by kernel_rfl)) ⟨A53, cp54, A51, cp52, rfl, hI.weaken hle16⟩
/-- cenotaph/chain.Heads -/
theorem c13 (w0 w : World) (Z : Hp) (A : HP) (hI : Inv w0 Z w A) (A_a0 : Option Addr) (c_a0 : Nat) (a0 : (List ApiEvent)) (hr_a0 : RdS Z c_ApiEvent 37 A_a0 c_a0 a0) (r : (List (List Int))) (h0 : chain_Heads a0 = some r) :
  Calls prog 13 #[.slice A_a0 a0.length c_a0] w (fun e w' => ∃ (A1 : Option Addr) (c1 : Nat), e = .returned (.slice A1 r.length c1) ∧ Inv w0 Z w' (star (ownS 29 (cA (Value.int .u8)) 32 A1 c1 r) A)) := by
 have e4 := calls_intro (R := (fun e w' => ∃ (A1 : Option Addr) (c1 : Nat), e = .returned (.slice A1 r.length c1) ∧ Inv w0 Z w' (star (ownS 29 (cA (Value.int .u8)) 32 A1 c1 r) A))) (w := w) (args := [.slice A_a0 a0.length c_a0]) (fn := Go.Proofs.Try.f13) 11 Go.Proofs.Try.func13 (by rfl) Go.Proofs.Try.ntmps13 (by kernel_rfl)
 refine e4 ?_
 clear e4
 unfold chain_Heads at h0
 refine cQ ?_
 refine cR [0] (by kernel_rfl) ?_
 refine oP (r := []) [0] (S' := [(0, .slice A_a0 a0.length c_a0)]) (by kernel_rfl) ?_
 refine oD ?_
 refine qT ?_
 refine cQ ?_
 refine cR [0, 1, 2, 3, 4, 5, 6] (by kernel_rfl) ?_
 refine oP (r := [1, 2, 3, 4, 5, 6]) [0] (S' := [(6, .slice A_a0 a0.length c_a0)]) (by kernel_rfl) ?_
 obtain ⟨⟨y2, y5⟩, hc1, h0⟩ := bindS h0
 try dsimp only at h0
 refine oC (Does.call (d := some 7) (n := 21) (vs := [.slice A_a0 a0.length c_a0]) (by kernel_rfl) en21 (c21 w0 w _ _ hI A_a0 c_a0 a0 hr_a0 _ hc1) ?_)
 rintro e w ⟨A3, cp4, A6, cp7, rfl, hI⟩
 refine ⟨_, rfl, ?_⟩
 refine oP (r := []) [2, 3, 4, 5, 6] (S' := [(4, .slice A6 y5.length cp7)]) (by kernel_rfl) ?_
 refine oD ?_
 refine qT ?_
 refine cQ ?_
 refine cR [0, 1] (by kernel_rfl) ?_
 refine oP (r := []) [0, 1] (S' := [(2, .slice A6 y5.length cp7)]) (by kernel_rfl) ?_
 refine oD ?_
 refine qT ?_
 refine CodT.ret ?_
 have hI := hI.drop
 have e := someS h0
 subst e
 refine qK [2] (S' := [(2, .slice A6 y5.length cp7)]) (by kernel_rfl) ?_
 exact post_ret (v := .slice A6 y5.length cp7) (fun a ha => RunRes.run (vs := [.slice A6 y5.length cp7]) (.tmp (t := 2) (by kernel_rfl) .nil) ha (by kernel_rfl)) ⟨A6, cp7, rfl, hI⟩
/-- slices.Reverse[[]string,string] -/
theorem c22 (w0 w : World) (Z : Hp) (A : HP)  (A_a0 : Option Addr) (c_a0 : Nat) (a0 : (List ByteArray)) (hI : Inv w0 Z w (star (ownS 9 cS 1 A_a0 c_a0 a0) A)) (r : (List ByteArray)) (h0 : slices_Reverse_string a0 = some r) :
  Calls prog 22 #[.slice A_a0 a0.length c_a0] w (fun e w' => e = .returned (.tuple #[]) ∧ r.length = a0.length ∧ Inv w0 Z w' (star (ownS 9 cS 1 A_a0 c_a0 r) A)) := by
 have e4 := calls_intro (R := (fun e w' => e = .returned (.tuple #[]) ∧ r.length = a0.length ∧ Inv w0 Z w' (star (ownS 9 cS 1 A_a0 c_a0 r) A))) (w := w) (args := [.slice A_a0 a0.length c_a0]) (fn := Go.Proofs.Try.f22) 28 Go.Proofs.Try.func22 (by rfl) Go.Proofs.Try.ntmps22 (by kernel_rfl)
 refine e4 ?_
 clear e4
 unfold slices_Reverse_string at h0
 refine cQ ?_
 refine cR [0, 1, 2, 3, 4] (by kernel_rfl) ?_
 refine oP (r := []) [0, 1, 2, 3, 4] (S' := [(0, .slice A_a0 a0.length c_a0), (2, iv 0), (3, iv (wi64 ((a0.length : Int) - 1)))]) (by kernel_rfl) ?_
 refine oD ?_
 refine qT ?_
 obtain ⟨r1, h1, h0⟩ := bindS h0
 refine CodT.meet1 (fun a w => ∃ (x1 : (List ByteArray)), x1 = r1 ∧ Fr 28 [] a ∧ Inv w0 Z w (star (ownS 9 cS 1 A_a0 c_a0 x1) A)) ?_ ?_
 ·
  refine CodT.block ?_
  refine (fun a ha => wp_loopN (fun k a w => ∃ (x2 : (List ByteArray)) (x6 : Int) (x7 : Int), slices_Reverse_string.l0 k x2 x6 x7 = some r1 ∧ Fr 28 [(0, .slice A_a0 x2.length c_a0), (2, iv x6), (3, iv x7)] a ∧ Inv w0 Z w (star (ownS 9 cS 1 A_a0 c_a0 x2) A)) ?_ FU a w ⟨a0, 0, wi64 ((a0.length : Int) - 1), h1, ha.keep [0, 2, 3] (by kernel_rfl), hI⟩)
  clear h1 hI
  rintro k a w ⟨x2, x6, x7, h1, ha, hI⟩
  rcases k with _ | k
  ·
   cases h1
  simp only [slices_Reverse_string.l0] at h1
  refine CodT.of ?_ ha
  refine cQ ?_
  refine cQ ?_
  refine cR [0, 1, 2] (by kernel_rfl) ?_
  refine oP (r := []) [0, 1, 2] (S' := [(0, .slice A_a0 x2.length c_a0), (2, iv x6), (3, iv x7), (9, .bool (decide (x6 < x7)))]) (by kernel_rfl) ?_
  refine oD ?_
  refine qT ?_
  by_cases hb8 : (decide (x6 < x7)) = true
  ·
   rw [if_pos hb8] at h1
   refine CodT.yes' (b := decide (x6 < x7)) (by kernel_rfl) hb8 ?_
   refine CodT.skip ?_
   refine qT ?_
   refine cQ ?_
   refine CodT.block ?_
   refine CodT.drawI (n := 16) [13, 15] (by kernel_rfl) (by kernel_rfl) hI ?_
   intro w hI
   refine GmT.p' 0 14 (.slice A_a0 x2.length c_a0) (by kernel_rfl) (by kernel_rfl) ?_
   refine GmT.p' 1 15 (iv x6) (by kernel_rfl) (by kernel_rfl) ?_
   refine GmT.p' 2 16 (.slice A_a0 x2.length c_a0) (by kernel_rfl) (by kernel_rfl) ?_
   refine GmT.p' 3 17 (iv x7) (by kernel_rfl) (by kernel_rfl) ?_
   refine GmT.p' 4 18 (.slice A_a0 x2.length c_a0) (by kernel_rfl) (by kernel_rfl) ?_
   refine GmT.p' 5 19 (iv x7) (by kernel_rfl) (by kernel_rfl) ?_
   refine GmT.p' 8 22 (.slice A_a0 x2.length c_a0) (by kernel_rfl) (by kernel_rfl) ?_
   refine GmT.p' 9 23 (iv x6) (by kernel_rfl) (by kernel_rfl) ?_
   obtain ⟨hg9, h1⟩ := guardS h1
   obtain ⟨g10, hA11, hr12, hl13⟩ := ownS_get hI hg9.1 hg9.2
   refine GmT.r (i := 6) 2 (by kernel_rfl) (by kernel_rfl) (Yl.indexSlice (d := 20) (T := 47) (cc := c_a0) (k := .i64) (j := x7) (g := g10) (o := 0) (by kernel_rfl) Go.Proofs.Try.underlying47 ty9 hA11 hg9.1 hg9.2) hI ?_
   refine GmT.r (i := 7) 2 (by kernel_rfl) (by kernel_rfl) (Yl.load (d := 21) (T := 9) (v := .string (gt x2 x7)) (by kernel_rfl) (ldR ty9 (v := .string (gt x2 x7)) 0 (fun w hC => hr12 w0 w _ hC) (by kernel_rfl))) hI ?_
   obtain ⟨hg14, h1⟩ := guardS h1
   obtain ⟨g15, hA16, hr17, hl18⟩ := ownS_get hI hg14.1 hg14.2
   refine GmT.r (i := 10) 3 (by kernel_rfl) (by kernel_rfl) (Yl.indexSlice (d := 24) (T := 47) (cc := c_a0) (k := .i64) (j := x6) (g := g15) (o := 0) (by kernel_rfl) Go.Proofs.Try.underlying47 ty9 hA16 hg14.1 hg14.2) hI ?_
   refine GmT.r (i := 11) 2 (by kernel_rfl) (by kernel_rfl) (Yl.load (d := 25) (T := 9) (v := .string (gt x2 x6)) (by kernel_rfl) (ldR ty9 (v := .string (gt x2 x6)) 0 (fun w hC => hr17 w0 w _ hC) (by kernel_rfl))) hI ?_
   obtain ⟨hg19, h1⟩ := guardS h1
   obtain ⟨g20, hA21, hr22, hl23⟩ := ownS_get hI hg19.1 hg19.2
   refine GmT.r (i := 12) 2 (by kernel_rfl) (by kernel_rfl) (Yl.indexSlice (d := 26) (T := 47) (cc := c_a0) (k := .i64) (j := x6) (g := g20) (o := 0) (by kernel_rfl) Go.Proofs.Try.underlying47 ty9 hA21 hg19.1 hg19.2) hI ?_
   refine GmT.o (i := 13) (by kernel_rfl) (Does.storeElem (T := 9) (j := x6) (k := 0) (v := .string (gt x2 x7)) (vs := ([.string (gt x2 x7)] : LV)) (gt x2 x7) (by kernel_rfl) ty9 hA21 hI hg19.1 hg19.2 (by kernel_rfl) (by kernel_rfl) (by kernel_rfl) (by kernel_rfl) (by kernel_rfl) ?_)
   intro w hI
   refine ⟨fun h => absurd h (by decide), ?_⟩
   refine GmT.keep [0, 2, 3, 9, 14, 15, 16, 17, 18, 19, 21, 22, 23, 25] (S' := [(0, .slice A_a0 ((st x2 x6 (gt x2 x7)).length) c_a0), (2, iv x6), (3, iv x7), (9, .bool (decide (x6 < x7))), (14, .slice A_a0 ((st x2 x6 (gt x2 x7)).length) c_a0), (15, iv x6), (16, .slice A_a0 ((st x2 x6 (gt x2 x7)).length) c_a0), (17, iv x7), (18, .slice A_a0 ((st x2 x6 (gt x2 x7)).length) c_a0), (19, iv x7), (21, .string (gt x2 x7)), (22, .slice A_a0 ((st x2 x6 (gt x2 x7)).length) c_a0), (23, iv x6), (25, .string (gt x2 x6))]) (by simp only [st_length]; kernel_rfl) ?_
   obtain ⟨hg24, h1⟩ := guardS h1
   obtain ⟨g25, hA26, hr27, hl28⟩ := ownS_get hI hg24.1 hg24.2
   refine GmT.o (i := 14) (by kernel_rfl) (Does.yi (Yl.indexSlice (d := 27) (T := 47) (cc := c_a0) (k := .i64) (j := x7) (g := g25) (o := 0) (by kernel_rfl) Go.Proofs.Try.underlying47 ty9 hA26 hg24.1 hg24.2) hI ?_)
   refine ⟨fun _ h => h, ?_⟩
   refine GmT.o (i := 15) (by kernel_rfl) (Does.storeElem (T := 9) (j := x7) (k := 0) (v := .string (gt x2 x6)) (vs := ([.string (gt x2 x6)] : LV)) (gt x2 x6) (by kernel_rfl) ty9 hA26 hI hg24.1 hg24.2 (by kernel_rfl) (by kernel_rfl) (by kernel_rfl) (by kernel_rfl) (by kernel_rfl) ?_)
   intro w hI
   refine ⟨fun h => absurd h (by decide), ?_⟩
   refine GmT.keep [0, 2, 3, 9, 14, 15, 16, 17, 18, 19, 21, 22, 23, 25] (S' := [(0, .slice A_a0 ((st (st x2 x6 (gt x2 x7)) x7 (gt x2 x6)).length) c_a0), (2, iv x6), (3, iv x7), (9, .bool (decide (x6 < x7))), (14, .slice A_a0 ((st (st x2 x6 (gt x2 x7)) x7 (gt x2 x6)).length) c_a0), (15, iv x6), (16, .slice A_a0 ((st (st x2 x6 (gt x2 x7)) x7 (gt x2 x6)).length) c_a0), (17, iv x7), (18, .slice A_a0 ((st (st x2 x6 (gt x2 x7)) x7 (gt x2 x6)).length) c_a0), (19, iv x7), (21, .string (gt x2 x7)), (22, .slice A_a0 ((st (st x2 x6 (gt x2 x7)) x7 (gt x2 x6)).length) c_a0), (23, iv x6), (25, .string (gt x2 x6))]) (by simp only [st_length]; kernel_rfl) ?_
   refine GmT.done (by kernel_rfl) ?_
   refine Qn.block_normal ?_
   refine qT ?_
   refine cR [0, 1, 2, 3, 4, 5] (by kernel_rfl) ?_
   refine oP (r := []) [0, 1, 2, 3, 4, 5] (S' := [(0, .slice A_a0 ((st (st x2 x6 (gt x2 x7)) x7 (gt x2 x6)).length) c_a0), (2, iv (wi64 (x6 + 1))), (3, iv (wi64 (x7 - 1)))]) (by kernel_rfl) ?_
   refine oD ?_
   exact Qn.thenJ fun a ha => ⟨k, Nat.lt_succ_self k, st (st x2 x6 (gt x2 x7)) x7 (gt x2 x6), wi64 (x6 + 1), wi64 (x7 - 1), h1, ha.keep [0, 2, 3] (by kernel_rfl), hI⟩
  ·
   rw [if_neg hb8] at h1
   refine CodT.no' (b := decide (x6 < x7)) (by kernel_rfl) (by simpa using hb8) ?_
   refine CodT.exit ?_
   refine Qn.exit_then ?_
   refine Qn.exit_then ?_
   refine Qn.block ?_
   have e := someS h1
   subst e
   exact Qn.thenJ fun a ha => ⟨x2, rfl, ha.keep [] (by kernel_rfl), hI⟩
 ·
  rintro a w ⟨x1, rfl, ha, hI⟩
  try dsimp only at h0
  refine Qn.of ?_ ha
  obtain ⟨hg29, h0⟩ := guardS h0
  have e := someS h0
  subst e
  refine qK [] (S' := []) (by kernel_rfl) ?_
  exact post_normal (v := .tuple #[]) (fun a ha => RunRes.run (vs := []) .nil ha (by kernel_rfl)) ⟨rfl, hg29, hI⟩
/-- cenotaph/chain.Collide -/
theorem c10 (w0 w : World) (Z : Hp) (A : HP) (hI : Inv w0 Z w A) (A_a0 : Option Addr) (c_a0 : Nat) (a0 : (List ApiEvent)) (hr_a0 : RdS Z c_ApiEvent 37 A_a0 c_a0 a0) (A_a1 : Option Addr) (c_a1 : Nat) (a1 : (List ApiEvent)) (hr_a1 : RdS Z c_ApiEvent 37 A_a1 c_a1 a1) (r : (ByteArray × ByteArray × Bool)) (h0 : chain_Collide a0 a1 = some r) :
  Calls prog 10 #[.slice A_a0 a0.length c_a0, .slice A_a1 a1.length c_a1] w (fun e w' => e = .returned (.tuple #[.string r.1, .string r.2.1, .bool r.2.2]) ∧ Inv w0 Z w' A) := by
 have e4 := calls_intro (R := (fun e w' => e = .returned (.tuple #[.string r.1, .string r.2.1, .bool r.2.2]) ∧ Inv w0 Z w' A)) (w := w) (args := [.slice A_a0 a0.length c_a0, .slice A_a1 a1.length c_a1]) (fn := Go.Proofs.Try.f10) 76 Go.Proofs.Try.func10 (by rfl) Go.Proofs.Try.ntmps10 (by kernel_rfl)
 refine e4 ?_
 clear e4
 unfold chain_Collide at h0
 refine cQ ?_
 refine cR [0, 1, 2] (by kernel_rfl) ?_
 refine oP (r := []) [0, 1, 2] (S' := [(0, .slice A_a0 a0.length c_a0), (1, .slice A_a1 a1.length c_a1), (4, .string (⟨#[]⟩ : ByteArray)), (5, .string (⟨#[]⟩ : ByteArray)), (6, .bool false)]) (by kernel_rfl) ?_
 refine oD ?_
 refine qT ?_
 obtain ⟨r1, h1, h0⟩ := bindS h0
 refine CodT.meet1 (fun a w => False) ?_ ?_
 ·
  refine (fun a ha => wp_scopeB 0 rfl (fun k a w => ∃ (x1 : (List ByteArray)) (x4 : (List ByteArray)) (x7 : Int) (A2 : Option Addr) (cp3 : Nat) (A5 : Option Addr) (cp6 : Nat), chain_Collide.l0 k x1 x4 x7 = some r1 ∧ Fr 76 [(7, .slice A2 x1.length cp3), (9, .slice A5 x4.length cp6), (11, iv x7)] a ∧ Inv w0 Z w (star (ownS 9 cS 1 A2 cp3 x1) (star (ownS 9 cS 1 A5 cp6 x4) A))) ?_ ?_)
  ·
   clear h1 hI
   rintro k a w ⟨x1, x4, x7, A2, cp3, A5, cp6, h1, ha, hI⟩
   rcases k with _ | k
   ·
    cases h1
   simp only [chain_Collide.l0] at h1
   refine CodT.of ?_ ha
   refine cQ ?_
   obtain ⟨r2, h2, h1⟩ := bindS h1
   refine CodT.meet (fun a w => ∃ (x8 : Bool), x8 = r2 ∧ Fr 76 [(7, .slice A2 x1.length cp3), (9, .slice A5 x4.length cp6), (11, iv x7), (56, .bool x8)] a ∧ Inv w0 Z w (star (ownS 9 cS 1 A2 cp3 x1) (star (ownS 9 cS 1 A5 cp6 x4) A))) ?_ ?_
   ·
    refine cR [0, 1, 2, 3, 4, 5, 6, 7, 8, 9] (by kernel_rfl) ?_
    refine oP (r := [5, 6, 7, 8, 9]) [0, 1, 2, 3, 4] (S' := [(7, .slice A2 x1.length cp3), (9, .slice A5 x4.length cp6), (11, iv x7), (51, .bool (x7 == (x1.length : Int)))]) (by kernel_rfl) ?_
    by_cases hb9 : (x7 == (x1.length : Int)) = true
    ·
     rw [if_pos hb9] at h2
     refine oK [7, 9, 11, 51] (S' := [(7, .slice A2 x1.length cp3), (9, .slice A5 x4.length cp6), (11, iv x7), (51, .bool true)]) (by simp only [hb9]; kernel_rfl) ?_
     refine oP (r := []) [5, 6, 7, 8, 9] (S' := [(7, .slice A2 x1.length cp3), (9, .slice A5 x4.length cp6), (11, iv x7), (56, .bool true)]) (by kernel_rfl) ?_
     refine oD ?_
     have e := someS h2
     subst e
     exact Qn.thenJ fun a ha => ⟨true, rfl, ha.keep [7, 9, 11, 56] (by kernel_rfl), hI⟩
    ·
     rw [if_neg hb9] at h2
     have hb9 : (x7 == (x1.length : Int)) = false := by simpa using hb9
     refine oK [7, 9, 11, 51] (S' := [(7, .slice A2 x1.length cp3), (9, .slice A5 x4.length cp6), (11, iv x7), (51, .bool false)]) (by simp only [hb9]; kernel_rfl) ?_
     refine oP (r := []) [5, 6, 7, 8, 9] (S' := [(7, .slice A2 x1.length cp3), (9, .slice A5 x4.length cp6), (11, iv x7), (56, .bool (x7 == (x4.length : Int)))]) (by kernel_rfl) ?_
     refine oD ?_
     have e := someS h2
     subst e
     exact Qn.thenJ fun a ha => ⟨x7 == (x4.length : Int), rfl, ha.keep [7, 9, 11, 56] (by kernel_rfl), hI⟩
   ·
    rintro a w ⟨x8, rfl, ha, hI⟩
    try dsimp only at h1
    refine CodT.of ?_ ha
    by_cases hb10 : x8 = true
    ·
     rw [if_pos hb10] at h1
     refine CodT.yes' (b := x8) (by kernel_rfl) hb10 ?_
     refine cQ ?_
     refine cR [0, 1, 2] (by kernel_rfl) ?_
     refine oP (r := []) [0, 1, 2] (S' := [(4, .string (⟨#[]⟩ : ByteArray)), (5, .string (⟨#[]⟩ : ByteArray)), (6, .bool false)]) (by kernel_rfl) ?_
     refine oD ?_
     refine qT ?_
     refine CodT.ret ?_
     refine Qn.ret_then ?_
     refine Qn.jump_ret ?_
     refine Qn.ret_then ?_
     have hI := hI.drop
     have hI := hI.drop
     have e := someS h1
     subst e
     try dsimp only at h0
     have e := someS h0
     subst e
     refine qK [4, 5, 6] (S' := [(4, .string (⟨#[]⟩ : ByteArray)), (5, .string (⟨#[]⟩ : ByteArray)), (6, .bool false)]) (by kernel_rfl) ?_
     exact post_ret (v := .tuple #[.string (⟨#[]⟩ : ByteArray), .string (⟨#[]⟩ : ByteArray), .bool false]) (fun a ha => RunRes.run (vs := [.string (⟨#[]⟩ : ByteArray), .string (⟨#[]⟩ : ByteArray), .bool false]) (.tmp (t := 4) (by kernel_rfl) (.tmp (t := 5) (by kernel_rfl) (.tmp (t := 6) (by kernel_rfl) .nil))) ha (by kernel_rfl)) ⟨rfl, hI⟩
    ·
     rw [if_neg hb10] at h1
     refine CodT.no' (b := x8) (by kernel_rfl) (by simpa using hb10) ?_
     refine CodT.skip ?_
     refine qT ?_
     refine cQ ?_
     refine cQ ?_
     refine CodT.drawI (n := 9) [] (by kernel_rfl) (by kernel_rfl) hI ?_
     intro w hI
     refine GmT.p' 0 57 (.slice A2 x1.length cp3) (by kernel_rfl) (by kernel_rfl) ?_
     refine GmT.p' 1 58 (iv x7) (by kernel_rfl) (by kernel_rfl) ?_
     refine GmT.p' 4 61 (.slice A5 x4.length cp6) (by kernel_rfl) (by kernel_rfl) ?_
     refine GmT.p' 5 62 (iv x7) (by kernel_rfl) (by kernel_rfl) ?_
     obtain ⟨hg11, h1⟩ := guardS h1
     obtain ⟨g12, hA13, hr14, hl15⟩ := ownS_get hI hg11.1 hg11.2
     refine GmT.r (i := 2) 2 (by kernel_rfl) (by kernel_rfl) (Yl.indexSlice (d := 59) (T := 47) (cc := cp3) (k := .i64) (j := x7) (g := g12) (o := 0) (by kernel_rfl) Go.Proofs.Try.underlying47 ty9 hA13 hg11.1 hg11.2) hI ?_
     refine GmT.r (i := 3) 2 (by kernel_rfl) (by kernel_rfl) (Yl.load (d := 60) (T := 9) (v := .string (gt x1 x7)) (by kernel_rfl) (ldR ty9 (v := .string (gt x1 x7)) 0 (fun w hC => hr14 w0 w _ hC) (by kernel_rfl))) hI ?_
     obtain ⟨hg16, h1⟩ := guardS h1
     obtain ⟨g17, hA18, hr19, hl20⟩ := ownS_get (hI.mono (pick2 _ _ _)) hg16.1 hg16.2
     refine GmT.r (i := 6) 2 (by kernel_rfl) (by kernel_rfl) (Yl.indexSlice (d := 63) (T := 47) (cc := cp6) (k := .i64) (j := x7) (g := g17) (o := 0) (by kernel_rfl) Go.Proofs.Try.underlying47 ty9 hA18 hg16.1 hg16.2) hI ?_
     refine GmT.r (i := 7) 2 (by kernel_rfl) (by kernel_rfl) (Yl.load (d := 64) (T := 9) (v := .string (gt x4 x7)) (by kernel_rfl) (ldR ty9 (v := .string (gt x4 x7)) 0 (fun w hC => hr19 w0 w _ (hC.mono (pick2 _ _ _))) (by kernel_rfl))) hI ?_
     refine GmT.p' 8 65 (.bool (seq (gt x1 x7) (gt x4 x7))) (by kernel_rfl) (by kernel_rfl) ?_
     refine GmT.done (by kernel_rfl) ?_
     refine qT ?_
     by_cases hb21 : (seq (gt x1 x7) (gt x4 x7)) = true
     ·
      rw [if_pos hb21] at h1
      refine CodT.yes' (b := seq (gt x1 x7) (gt x4 x7)) (by kernel_rfl) hb21 ?_
      refine cQ ?_
      refine cR [0, 1, 2] (by kernel_rfl) ?_
      refine oP (r := []) [0, 1, 2] (S' := [(7, .slice A2 x1.length cp3), (9, .slice A5 x4.length cp6), (11, iv (wi64 (x7 + 1)))]) (by kernel_rfl) ?_
      refine oD ?_
      refine qT ?_
      refine CodT.goto ?_
      refine Qn.goto_then ?_
      exact Qn.jump fun a ha => ⟨k, Nat.lt_succ_self k, x1, x4, wi64 (x7 + 1), A2, cp3, A5, cp6, h1, ha.keep [7, 9, 11] (by kernel_rfl), hI⟩
     ·
      rw [if_neg hb21] at h1
      refine CodT.no' (b := seq (gt x1 x7) (gt x4 x7)) (by kernel_rfl) (by simpa using hb21) ?_
      refine CodT.skip ?_
      refine qT ?_
      refine cQ ?_
      refine CodT.drawI (n := 11) [] (by kernel_rfl) (by kernel_rfl) hI ?_
      intro w hI
      refine GmT.p' 0 68 (.slice A2 x1.length cp3) (by kernel_rfl) (by kernel_rfl) ?_
      refine GmT.p' 1 69 (iv x7) (by kernel_rfl) (by kernel_rfl) ?_
      refine GmT.p' 4 72 (.slice A5 x4.length cp6) (by kernel_rfl) (by kernel_rfl) ?_
      refine GmT.p' 5 73 (iv x7) (by kernel_rfl) (by kernel_rfl) ?_
      obtain ⟨hg22, h1⟩ := guardS h1
      obtain ⟨g23, hA24, hr25, hl26⟩ := ownS_get hI hg22.1 hg22.2
      refine GmT.r (i := 2) 2 (by kernel_rfl) (by kernel_rfl) (Yl.indexSlice (d := 70) (T := 47) (cc := cp3) (k := .i64) (j := x7) (g := g23) (o := 0) (by kernel_rfl) Go.Proofs.Try.underlying47 ty9 hA24 hg22.1 hg22.2) hI ?_
      refine GmT.r (i := 3) 2 (by kernel_rfl) (by kernel_rfl) (Yl.load (d := 71) (T := 9) (v := .string (gt x1 x7)) (by kernel_rfl) (ldR ty9 (v := .string (gt x1 x7)) 0 (fun w hC => hr25 w0 w _ hC) (by kernel_rfl))) hI ?_
      refine GmT.p' 8 4 (.string (gt x1 x7)) (by kernel_rfl) (by kernel_rfl) ?_
      obtain ⟨hg27, h1⟩ := guardS h1
      obtain ⟨g28, hA29, hr30, hl31⟩ := ownS_get (hI.mono (pick2 _ _ _)) hg27.1 hg27.2
      refine GmT.r (i := 6) 2 (by kernel_rfl) (by kernel_rfl) (Yl.indexSlice (d := 74) (T := 47) (cc := cp6) (k := .i64) (j := x7) (g := g28) (o := 0) (by kernel_rfl) Go.Proofs.Try.underlying47 ty9 hA29 hg27.1 hg27.2) hI ?_
      refine GmT.r (i := 7) 2 (by kernel_rfl) (by kernel_rfl) (Yl.load (d := 75) (T := 9) (v := .string (gt x4 x7)) (by kernel_rfl) (ldR ty9 (v := .string (gt x4 x7)) 0 (fun w hC => hr30 w0 w _ (hC.mono (pick2 _ _ _))) (by kernel_rfl))) hI ?_
      refine GmT.p' 9 5 (.string (gt x4 x7)) (by kernel_rfl) (by kernel_rfl) ?_
      refine GmT.p' 10 6 (.bool true) (by kernel_rfl) (by kernel_rfl) ?_
      refine GmT.done (by kernel_rfl) ?_
      refine qT ?_
      refine CodT.ret ?_
      refine Qn.jump_ret ?_
      refine Qn.ret_then ?_
      have hI := hI.drop
      have hI := hI.drop
      have e := someS h1
      subst e
      try dsimp only at h0
      have e := someS h0
      subst e
      refine qK [4, 5, 6] (S' := [(4, .string (gt x1 x7)), (5, .string (gt x4 x7)), (6, .bool true)]) (by kernel_rfl) ?_
      exact post_ret (v := .tuple #[.string (gt x1 x7), .string (gt x4 x7), .bool true]) (fun a ha => RunRes.run (vs := [.string (gt x1 x7), .string (gt x4 x7), .bool true]) (.tmp (t := 4) (by kernel_rfl) (.tmp (t := 5) (by kernel_rfl) (.tmp (t := 6) (by kernel_rfl) .nil))) ha (by kernel_rfl)) ⟨rfl, hI⟩
  ·
   intro hp32
   refine CodT.of ?_ ha
   refine cQ ?_
   refine cR [0, 1, 2, 3, 4, 5, 6] (by kernel_rfl) ?_
   refine oP (r := [1, 2, 3, 4, 5, 6]) [0] (S' := [(0, .slice A_a0 a0.length c_a0), (1, .slice A_a1 a1.length c_a1), (13, .slice A_a0 a0.length c_a0)]) (by kernel_rfl) ?_
   obtain ⟨⟨y34, y37⟩, hc33, h1⟩ := bindS h1
   try dsimp only at h1
   refine oC (Does.call (d := some 14) (n := 21) (vs := [.slice A_a0 a0.length c_a0]) (by kernel_rfl) en21 (c21 w0 w _ _ hI A_a0 c_a0 a0 hr_a0 _ hc33) ?_)
   rintro e w ⟨A35, cp36, A38, cp39, rfl, hI⟩
   refine ⟨_, rfl, ?_⟩
   refine oP (r := []) [2, 3, 4, 5, 6] (S' := [(0, .slice A_a0 a0.length c_a0), (1, .slice A_a1 a1.length c_a1), (7, .slice A35 y34.length cp36), (8, .slice A38 y37.length cp39)]) (by kernel_rfl) ?_
   refine oD ?_
   refine qT ?_
   refine cQ ?_
   refine cR [0, 1, 2, 3, 4, 5, 6] (by kernel_rfl) ?_
   refine oP (r := [1, 2, 3, 4, 5, 6]) [0] (S' := [(0, .slice A_a0 a0.length c_a0), (1, .slice A_a1 a1.length c_a1), (7, .slice A35 y34.length cp36), (8, .slice A38 y37.length cp39), (18, .slice A_a1 a1.length c_a1)]) (by kernel_rfl) ?_
   obtain ⟨⟨y41, y44⟩, hc40, h1⟩ := bindS h1
   try dsimp only at h1
   refine oC (Does.call (d := some 19) (n := 21) (vs := [.slice A_a1 a1.length c_a1]) (by kernel_rfl) en21 (c21 w0 w _ _ hI A_a1 c_a1 a1 hr_a1 _ hc40) ?_)
   rintro e w ⟨A42, cp43, A45, cp46, rfl, hI⟩
   refine ⟨_, rfl, ?_⟩
   refine oP (r := []) [2, 3, 4, 5, 6] (S' := [(0, .slice A_a0 a0.length c_a0), (1, .slice A_a1 a1.length c_a1), (7, .slice A35 y34.length cp36), (8, .slice A38 y37.length cp39), (9, .slice A42 y41.length cp43), (10, .slice A45 y44.length cp46)]) (by kernel_rfl) ?_
   refine oD ?_
   refine qT ?_
   refine cQ ?_
   obtain ⟨r2, h2, h1⟩ := bindS h1
   refine CodT.meet (fun a w => ∃ (x47 : Bool), x47 = r2 ∧ Fr 76 [(7, .slice A35 y34.length cp36), (9, .slice A42 y41.length cp43), (42, .bool x47)] a ∧ Inv w0 Z w (star (ownS 9 cS 1 A42 cp43 y41) (star (ownS 9 cS 1 A35 cp36 y34) A))) ?_ ?_
   ·
    refine CodT.drawI (n := 21) [] (by kernel_rfl) (by kernel_rfl) hI ?_
    intro w hI
    refine GmT.p' 0 22 (.slice A38 y37.length cp39) (by kernel_rfl) (by kernel_rfl) ?_
    refine GmT.p' 1 23 (iv (y37.length : Int)) (by kernel_rfl) (by kernel_rfl) ?_
    refine GmT.p' 2 24 (.bool ((y37.length : Int) == 0)) (by kernel_rfl) (by kernel_rfl) ?_
    refine GmT.p' 3 25 (.bool ((y37.length : Int) == 0)) (by kernel_rfl) (by kernel_rfl) ?_
    by_cases hb48 : ((y37.length : Int) == 0) = true
    ·
     rw [if_pos hb48] at h2
     refine GmT.keep [0, 1, 7, 8, 9, 10, 25] (S' := [(0, .slice A_a0 a0.length c_a0), (1, .slice A_a1 a1.length c_a1), (7, .slice A35 y34.length cp36), (8, .slice A38 y37.length cp39), (9, .slice A42 y41.length cp43), (10, .slice A45 y44.length cp46), (25, .bool true)]) (by simp only [hb48]; kernel_rfl) ?_
     refine GmT.p' 4 26 (undef) (by kernel_rfl) (by kernel_rfl) ?_
     refine GmT.p' 5 27 (undef) (by kernel_rfl) (by kernel_rfl) ?_
     refine GmT.p' 6 28 (undef) (by kernel_rfl) (by kernel_rfl) ?_
     refine GmT.p' 7 29 (.bool true) (by kernel_rfl) (by kernel_rfl) ?_
     refine GmT.p' 8 30 (.bool true) (by kernel_rfl) (by kernel_rfl) ?_
     refine GmT.p' 9 31 (undef) (by kernel_rfl) (by kernel_rfl) ?_
     refine GmT.p' 10 32 (undef) (by kernel_rfl) (by kernel_rfl) ?_
     refine GmT.p' 11 33 (undef) (by kernel_rfl) (by kernel_rfl) ?_
     refine GmT.p' 12 34 (undef) (by kernel_rfl) (by kernel_rfl) ?_
     refine GmT.p' 13 35 (undef) (by kernel_rfl) (by kernel_rfl) ?_
     refine GmT.p' 14 36 (undef) (by kernel_rfl) (by kernel_rfl) ?_
     refine GmT.p' 15 37 (undef) (by kernel_rfl) (by kernel_rfl) ?_
     refine GmT.p' 16 38 (undef) (by kernel_rfl) (by kernel_rfl) ?_
     refine GmT.p' 17 39 (undef) (by kernel_rfl) (by kernel_rfl) ?_
     refine GmT.p' 18 40 (undef) (by kernel_rfl) (by kernel_rfl) ?_
     refine GmT.p' 19 41 (undef) (by kernel_rfl) (by kernel_rfl) ?_
     refine GmT.p' 20 42 (.bool true) (by kernel_rfl) (by kernel_rfl) ?_
     refine GmT.done (by kernel_rfl) ?_
     have hI := hI.mono (pick2 _ _ _)
     have hI := hI.drop
     have hI := hI.mono (pick3 _ _ _ _)
     have hI := hI.drop
     have e := someS h2
     subst e
     exact Qn.thenJ fun a ha => ⟨true, rfl, ha.keep [7, 9, 42] (by kernel_rfl), hI⟩
    ·
     rw [if_neg hb48] at h2
     have hb48 : ((y37.length : Int) == 0) = false := by simpa using hb48
     refine GmT.keep [0, 1, 7, 8, 9, 10, 25] (S' := [(0, .slice A_a0 a0.length c_a0), (1, .slice A_a1 a1.length c_a1), (7, .slice A35 y34.length cp36), (8, .slice A38 y37.length cp39), (9, .slice A42 y41.length cp43), (10, .slice A45 y44.length cp46), (25, .bool false)]) (by simp only [hb48]; kernel_rfl) ?_
     refine GmT.p' 4 26 (.slice A45 y44.length cp46) (by kernel_rfl) (by kernel_rfl) ?_
     refine GmT.p' 5 27 (iv (y44.length : Int)) (by kernel_rfl) (by kernel_rfl) ?_
     refine GmT.p' 6 28 (.bool ((y44.length : Int) == 0)) (by kernel_rfl) (by kernel_rfl) ?_
     refine GmT.p' 7 29 (.bool ((y44.length : Int) == 0)) (by kernel_rfl) (by kernel_rfl) ?_
     refine GmT.p' 8 30 (.bool ((y44.length : Int) == 0)) (by kernel_rfl) (by kernel_rfl) ?_
     by_cases hb49 : ((y44.length : Int) == 0) = true
     ·
      rw [if_pos hb49] at h2
      refine GmT.keep [0, 1, 7, 8, 9, 10, 30] (S' := [(0, .slice A_a0 a0.length c_a0), (1, .slice A_a1 a1.length c_a1), (7, .slice A35 y34.length cp36), (8, .slice A38 y37.length cp39), (9, .slice A42 y41.length cp43), (10, .slice A45 y44.length cp46), (30, .bool true)]) (by simp only [hb49]; kernel_rfl) ?_
      refine GmT.p' 9 31 (undef) (by kernel_rfl) (by kernel_rfl) ?_
      refine GmT.p' 10 32 (undef) (by kernel_rfl) (by kernel_rfl) ?_
      refine GmT.p' 11 33 (undef) (by kernel_rfl) (by kernel_rfl) ?_
      refine GmT.p' 12 34 (undef) (by kernel_rfl) (by kernel_rfl) ?_
      refine GmT.p' 13 35 (undef) (by kernel_rfl) (by kernel_rfl) ?_
      refine GmT.p' 14 36 (undef) (by kernel_rfl) (by kernel_rfl) ?_
      refine GmT.p' 15 37 (undef) (by kernel_rfl) (by kernel_rfl) ?_
      refine GmT.p' 16 38 (undef) (by kernel_rfl) (by kernel_rfl) ?_
      refine GmT.p' 17 39 (undef) (by kernel_rfl) (by kernel_rfl) ?_
      refine GmT.p' 18 40 (undef) (by kernel_rfl) (by kernel_rfl) ?_
      refine GmT.p' 19 41 (undef) (by kernel_rfl) (by kernel_rfl) ?_
      refine GmT.p' 20 42 (.bool true) (by kernel_rfl) (by kernel_rfl) ?_
      refine GmT.done (by kernel_rfl) ?_
      have hI := hI.mono (pick2 _ _ _)
      have hI := hI.drop
      have hI := hI.mono (pick3 _ _ _ _)
      have hI := hI.drop
      have e := someS h2
      subst e
      exact Qn.thenJ fun a ha => ⟨true, rfl, ha.keep [7, 9, 42] (by kernel_rfl), hI⟩
     ·
      rw [if_neg hb49] at h2
      have hb49 : ((y44.length : Int) == 0) = false := by simpa using hb49
      refine GmT.keep [0, 1, 7, 8, 9, 10, 30] (S' := [(0, .slice A_a0 a0.length c_a0), (1, .slice A_a1 a1.length c_a1), (7, .slice A35 y34.length cp36), (8, .slice A38 y37.length cp39), (9, .slice A42 y41.length cp43), (10, .slice A45 y44.length cp46), (30, .bool false)]) (by simp only [hb49]; kernel_rfl) ?_
      refine GmT.p' 9 31 (.slice A38 y37.length cp39) (by kernel_rfl) (by kernel_rfl) ?_
      refine GmT.p' 10 32 (.slice A_a0 a0.length c_a0) (by kernel_rfl) (by kernel_rfl) ?_
      refine GmT.p' 11 33 (iv (a0.length : Int)) (by kernel_rfl) (by kernel_rfl) ?_
      refine GmT.p' 14 36 (.slice A45 y44.length cp46) (by kernel_rfl) (by kernel_rfl) ?_
      refine GmT.p' 15 37 (.slice A_a1 a1.length c_a1) (by kernel_rfl) (by kernel_rfl) ?_
      refine GmT.p' 16 38 (iv (a1.length : Int)) (by kernel_rfl) (by kernel_rfl) ?_
      obtain ⟨hg50, h2⟩ := guardS h2
      obtain ⟨g51, hA52, hr53, hl54⟩ := ownS_get (hI.mono (pick4 _ _ _ _ _)) hg50.1 hg50.2
      refine GmT.r (i := 12) 2 (by kernel_rfl) (by kernel_rfl) (Yl.indexSlice (d := 34) (T := 32) (cc := cp39) (k := .i64) (j := (a0.length : Int)) (g := g51) (o := 0) (by kernel_rfl) Go.Proofs.Try.underlying32 ty29 hA52 hg50.1 hg50.2) hI ?_
      refine GmT.r (i := 13) 2 (by kernel_rfl) (by kernel_rfl) (Yl.load (d := 35) (T := 29) (v := .agg (cA (Value.int .u8) (gt y37 (a0.length : Int))).toArray) (by kernel_rfl) (ldRN ty29 (cs := cA (Value.int .u8) (gt y37 (a0.length : Int))) 0 (fun w hC => hr53 w0 w _ (hC.mono (pick4 _ _ _ _ _))) ((cA_length _ _).trans ((cA_length _ _).symm.trans hl54)) (whole _ _ ((cA_length _ _).trans ((cA_length _ _).symm.trans hl54))))) hI ?_
      obtain ⟨hg55, h2⟩ := guardS h2
      obtain ⟨g56, hA57, hr58, hl59⟩ := ownS_get (hI.mono (pick2 _ _ _)) hg55.1 hg55.2
      refine GmT.r (i := 17) 2 (by kernel_rfl) (by kernel_rfl) (Yl.indexSlice (d := 39) (T := 32) (cc := cp46) (k := .i64) (j := (a1.length : Int)) (g := g56) (o := 0) (by kernel_rfl) Go.Proofs.Try.underlying32 ty29 hA57 hg55.1 hg55.2) hI ?_
      refine GmT.r (i := 18) 2 (by kernel_rfl) (by kernel_rfl) (Yl.load (d := 40) (T := 29) (v := .agg (cA (Value.int .u8) (gt y44 (a1.length : Int))).toArray) (by kernel_rfl) (ldRN ty29 (cs := cA (Value.int .u8) (gt y44 (a1.length : Int))) 0 (fun w hC => hr58 w0 w _ (hC.mono (pick2 _ _ _))) ((cA_length _ _).trans ((cA_length _ _).symm.trans hl59)) (whole _ _ ((cA_length _ _).trans ((cA_length _ _).symm.trans hl59))))) hI ?_
      refine GmT.r (i := 19) 2 (by kernel_rfl) (by kernel_rfl) (Yl.neqA (k := .u8) (d := 41) (T := 29) (xs := gt y37 (a0.length : Int)) (ys := gt y44 (a1.length : Int)) (by kernel_rfl) Go.Proofs.Try.underlying29 (by kernel_rfl) Go.Proofs.Try.underlying5 ty5 ((cA_length _ _).symm.trans hl54) ((cA_length _ _).symm.trans hl59)) hI ?_
      refine GmT.p' 20 42 (.bool (!(eqA (gt y37 (a0.length : Int)) (gt y44 (a1.length : Int))))) (by kernel_rfl) (by kernel_rfl) ?_
      refine GmT.done (by kernel_rfl) ?_
      have hI := hI.mono (pick2 _ _ _)
      have hI := hI.drop
      have hI := hI.mono (pick3 _ _ _ _)
      have hI := hI.drop
      have e := someS h2
      subst e
      exact Qn.thenJ fun a ha => ⟨!(eqA (gt y37 (a0.length : Int)) (gt y44 (a1.length : Int))), rfl, ha.keep [7, 9, 42] (by kernel_rfl), hI⟩
   ·
    rintro a w ⟨x47, rfl, ha, hI⟩
    try dsimp only at h1
    refine CodT.of ?_ ha
    by_cases hb60 : x47 = true
    ·
     rw [if_pos hb60] at h1
     refine CodT.yes' (b := x47) (by kernel_rfl) hb60 ?_
     refine cQ ?_
     refine cR [0, 1, 2] (by kernel_rfl) ?_
     refine oP (r := []) [0, 1, 2] (S' := [(4, .string (⟨#[]⟩ : ByteArray)), (5, .string (⟨#[]⟩ : ByteArray)), (6, .bool false)]) (by kernel_rfl) ?_
     refine oD ?_
     refine qT ?_
     refine CodT.ret ?_
     refine Qn.ret_then ?_
     refine Qn.jump_ret ?_
     refine Qn.ret_then ?_
     have hI := hI.drop
     have hI := hI.drop
     have e := someS h1
     subst e
     try dsimp only at h0
     have e := someS h0
     subst e
     refine qK [4, 5, 6] (S' := [(4, .string (⟨#[]⟩ : ByteArray)), (5, .string (⟨#[]⟩ : ByteArray)), (6, .bool false)]) (by kernel_rfl) ?_
     exact post_ret (v := .tuple #[.string (⟨#[]⟩ : ByteArray), .string (⟨#[]⟩ : ByteArray), .bool false]) (fun a ha => RunRes.run (vs := [.string (⟨#[]⟩ : ByteArray), .string (⟨#[]⟩ : ByteArray), .bool false]) (.tmp (t := 4) (by kernel_rfl) (.tmp (t := 5) (by kernel_rfl) (.tmp (t := 6) (by kernel_rfl) .nil))) ha (by kernel_rfl)) ⟨rfl, hI⟩
    ·
     rw [if_neg hb60] at h1
     refine CodT.no' (b := x47) (by kernel_rfl) (by simpa using hb60) ?_
     refine CodT.skip ?_
     refine qT ?_
     refine cQ ?_
     refine cR [0, 1] (by kernel_rfl) ?_
     refine oP (r := [1]) [0] (S' := [(7, .slice A35 y34.length cp36), (9, .slice A42 y41.length cp43), (43, .slice A35 y34.length cp36)]) (by kernel_rfl) ?_
     have hI := hI.mono (pick2 _ _ _)
     obtain ⟨y62, hc61, h1⟩ := bindS h1
     try dsimp only at h1
     refine oC (Does.call (d := some 44) (n := 22) (vs := [.slice A35 y34.length cp36]) (by kernel_rfl) en22 (c22 w0 w _ _ A35 cp36 y34 hI _ hc61) ?_)
     rintro e w ⟨rfl, hm63, hI⟩
     refine ⟨_, rfl, ?_⟩
     refine oK [7, 9, 43, 44] (S' := [(7, .slice A35 y62.length cp36), (9, .slice A42 y41.length cp43), (43, .slice A35 y62.length cp36), (44, .tuple #[])]) (by simp only [hm63]; kernel_rfl) ?_
     refine oD ?_
     refine qT ?_
     refine cQ ?_
     refine cR [0, 1] (by kernel_rfl) ?_
     refine oP (r := [1]) [0] (S' := [(7, .slice A35 y62.length cp36), (9, .slice A42 y41.length cp43), (45, .slice A42 y41.length cp43)]) (by kernel_rfl) ?_
     have hI := hI.mono (pick2 _ _ _)
     obtain ⟨y65, hc64, h1⟩ := bindS h1
     try dsimp only at h1
     refine oC (Does.call (d := some 46) (n := 22) (vs := [.slice A42 y41.length cp43]) (by kernel_rfl) en22 (c22 w0 w _ _ A42 cp43 y41 hI _ hc64) ?_)
     rintro e w ⟨rfl, hm66, hI⟩
     refine ⟨_, rfl, ?_⟩
     refine oK [7, 9, 45, 46] (S' := [(7, .slice A35 y62.length cp36), (9, .slice A42 y65.length cp43), (45, .slice A42 y65.length cp43), (46, .tuple #[])]) (by simp only [hm66]; kernel_rfl) ?_
     refine oD ?_
     refine qT ?_
     refine cQ ?_
     refine cR [0] (by kernel_rfl) ?_
     refine oP (r := []) [0] (S' := [(7, .slice A35 y62.length cp36), (9, .slice A42 y65.length cp43), (11, iv 0)]) (by kernel_rfl) ?_
     refine oD ?_
     refine qT ?_
     refine cQ ?_
     refine CodT.label ?_
     refine qT ?_
     have hI := hI.mono (pick2 _ _ _)
     exact fun a ha => hp32 FU a w ⟨y62, y65, 0, A35, cp36, A42, cp43, h1, ha.keep [7, 9, 11] (by kernel_rfl), hI⟩
 ·
  intro a w h; exact h.elim
/-- cenotaph/chain.Input -/
theorem c18 (w0 w : World) (Z : Hp) (A : HP) (hI : Inv w0 Z w A) (A_a0 : Option Addr) (c_a0 : Nat) (a0 : (List ApiEvent)) (hr_a0 : RdS Z c_ApiEvent 37 A_a0 c_a0 a0) (a1 : Int) (r : ByteArray) (h0 : chain_Input a0 a1 = some r) :
  Calls prog 18 #[.slice A_a0 a0.length c_a0, iv a1] w (fun e w' => e = .returned (.string r) ∧ Inv w0 Z w' A) := by
 have e4 := calls_intro (R := (fun e w' => e = .returned (.string r) ∧ Inv w0 Z w' A)) (w := w) (args := [.slice A_a0 a0.length c_a0, iv a1]) (fn := Go.Proofs.Try.f18) 24 Go.Proofs.Try.func18 (by rfl) Go.Proofs.Try.ntmps18 (by kernel_rfl)
 refine e4 ?_
 clear e4
 unfold chain_Input at h0
 refine cQ ?_
 refine cR [0] (by kernel_rfl) ?_
 refine oP (r := []) [0] (S' := [(0, .slice A_a0 a0.length c_a0), (1, iv a1)]) (by kernel_rfl) ?_
 refine oD ?_
 refine qT ?_
 refine cQ ?_
 refine cR [0, 1, 2, 3, 4, 5, 6] (by kernel_rfl) ?_
 refine oP (r := [1, 2, 3, 4, 5, 6]) [0] (S' := [(1, iv a1), (8, .slice A_a0 a0.length c_a0)]) (by kernel_rfl) ?_
 obtain ⟨⟨y2, y5⟩, hc1, h0⟩ := bindS h0
 try dsimp only at h0
 refine oC (Does.call (d := some 9) (n := 21) (vs := [.slice A_a0 a0.length c_a0]) (by kernel_rfl) en21 (c21 w0 w _ _ hI A_a0 c_a0 a0 hr_a0 _ hc1) ?_)
 rintro e w ⟨A3, cp4, A6, cp7, rfl, hI⟩
 refine ⟨_, rfl, ?_⟩
 refine oP (r := []) [2, 3, 4, 5, 6] (S' := [(1, iv a1), (5, .slice A3 y2.length cp4)]) (by kernel_rfl) ?_
 refine oD ?_
 refine qT ?_
 refine cQ ?_
 obtain ⟨r1, h1, h0⟩ := bindS h0
 refine CodT.meet (fun a w => ∃ (x8 : Bool), x8 = r1 ∧ Fr 24 [(1, iv a1), (5, .slice A3 y2.length cp4), (19, .bool x8)] a ∧ Inv w0 Z w (star (ownS 9 cS 1 A3 cp4 y2) A)) ?_ ?_
 ·
  refine cR [0, 1, 2, 3, 4, 5, 6, 7] (by kernel_rfl) ?_
  refine oP (r := [3, 4, 5, 6, 7]) [0, 1, 2] (S' := [(1, iv a1), (5, .slice A3 y2.length cp4), (14, .bool (decide (a1 < 0)))]) (by kernel_rfl) ?_
  by_cases hb9 : (decide (a1 < 0)) = true
  ·
   rw [if_pos hb9] at h1
   refine oK [1, 5, 14] (S' := [(1, iv a1), (5, .slice A3 y2.length cp4), (14, .bool true)]) (by simp only [hb9]; kernel_rfl) ?_
   refine oP (r := []) [3, 4, 5, 6, 7] (S' := [(1, iv a1), (5, .slice A3 y2.length cp4), (19, .bool true)]) (by kernel_rfl) ?_
   refine oD ?_
   have hI := hI.mono (pick2 _ _ _)
   have hI := hI.drop
   have e := someS h1
   subst e
   exact Qn.thenJ fun a ha => ⟨true, rfl, ha.keep [1, 5, 19] (by kernel_rfl), hI⟩
  ·
   rw [if_neg hb9] at h1
   have hb9 : (decide (a1 < 0)) = false := by simpa using hb9
   refine oK [1, 5, 14] (S' := [(1, iv a1), (5, .slice A3 y2.length cp4), (14, .bool false)]) (by simp only [hb9]; kernel_rfl) ?_
   refine oP (r := []) [3, 4, 5, 6, 7] (S' := [(1, iv a1), (5, .slice A3 y2.length cp4), (19, .bool (decide (a1 ≥ (y2.length : Int))))]) (by kernel_rfl) ?_
   refine oD ?_
   have hI := hI.mono (pick2 _ _ _)
   have hI := hI.drop
   have e := someS h1
   subst e
   exact Qn.thenJ fun a ha => ⟨decide (a1 ≥ (y2.length : Int)), rfl, ha.keep [1, 5, 19] (by kernel_rfl), hI⟩
 ·
  rintro a w ⟨x8, rfl, ha, hI⟩
  try dsimp only at h0
  refine CodT.of ?_ ha
  by_cases hb10 : x8 = true
  ·
   rw [if_pos hb10] at h0
   refine CodT.yes' (b := x8) (by kernel_rfl) hb10 ?_
   refine cQ ?_
   refine cR [0] (by kernel_rfl) ?_
   refine oP (r := []) [0] (S' := [(4, .string (⟨#[]⟩ : ByteArray))]) (by kernel_rfl) ?_
   refine oD ?_
   refine qT ?_
   refine CodT.ret ?_
   refine Qn.ret_then ?_
   have hI := hI.drop
   have e := someS h0
   subst e
   refine qK [4] (S' := [(4, .string (⟨#[]⟩ : ByteArray))]) (by kernel_rfl) ?_
   exact post_ret (v := .string (⟨#[]⟩ : ByteArray)) (fun a ha => RunRes.run (vs := [.string (⟨#[]⟩ : ByteArray)]) (.tmp (t := 4) (by kernel_rfl) .nil) ha (by kernel_rfl)) ⟨rfl, hI⟩
  ·
   rw [if_neg hb10] at h0
   refine CodT.no' (b := x8) (by kernel_rfl) (by simpa using hb10) ?_
   refine CodT.skip ?_
   refine qT ?_
   refine cQ ?_
   refine cR [0, 1, 2, 3, 4] (by kernel_rfl) ?_
   refine oP (r := [2, 3, 4]) [0, 1] (S' := [(20, .slice A3 y2.length cp4), (21, iv a1)]) (by kernel_rfl) ?_
   obtain ⟨hg11, h0⟩ := guardS h0
   obtain ⟨g12, hA13, hr14, hl15⟩ := ownS_get hI hg11.1 hg11.2
   refine oC (Does.yi (Yl.indexSlice (d := 22) (T := 47) (cc := cp4) (k := .i64) (j := a1) (g := g12) (o := 0) (by kernel_rfl) Go.Proofs.Try.underlying47 ty9 hA13 hg11.1 hg11.2) hI ?_)
   refine oC (Does.yi (Yl.load (d := 23) (T := 9) (v := .string (gt y2 a1)) (by kernel_rfl) (ldR ty9 (v := .string (gt y2 a1)) 0 (fun w hC => hr14 w0 w _ hC) (by kernel_rfl))) hI ?_)
   refine oP (r := []) [4] (S' := [(4, .string (gt y2 a1))]) (by kernel_rfl) ?_
   refine oD ?_
   refine qT ?_
   refine CodT.ret ?_
   have hI := hI.drop
   have e := someS h0
   subst e
   refine qK [4] (S' := [(4, .string (gt y2 a1))]) (by kernel_rfl) ?_
   exact post_ret (v := .string (gt y2 a1)) (fun a ha => RunRes.run (vs := [.string (gt y2 a1)]) (.tmp (t := 4) (by kernel_rfl) .nil) ha (by kernel_rfl)) ⟨rfl, hI⟩
end Go.Cen
