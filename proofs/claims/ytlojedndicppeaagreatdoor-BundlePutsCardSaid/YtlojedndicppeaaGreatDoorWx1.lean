/- That the machine computes these: walks, printed by a program of ours. -/
import Derived.Test.YtlojedndicppeaaGreatDoorPx
import Derived.Test.YtlojedndicppeaaGreatDoorWx0
set_option linter.unusedVariables false
set_option linter.unusedSimpArgs false
namespace Go.Cen
set_option maxRecDepth 100000
set_option maxHeartbeats 4000000
/-- cenotaph/name.Count -/
theorem c93 (w0 w : World) (Z : Hp) (A : HP) (hI : Inv w0 Z w A) (hT : Tabs Z) (a0 : ByteArray) (r : Int) (h0 : name_Count a0 = some r) :
  Calls prog 93 #[.string a0] w (fun e w' => e = .returned (iv r) ∧ Inv w0 Z w' A) := by
 have e4 := calls_intro (R := (fun e w' => e = .returned (iv r) ∧ Inv w0 Z w' A)) (w := w) (args := [.string a0]) (fn := Go.Proofs.Tryz.f93) 11 Go.Proofs.Tryz.func93 (by rfl) Go.Proofs.Tryz.ntmps93 (by kernel_rfl)
 refine e4 ?_
 clear e4
 unfold name_Count at h0
 refine cQ (cR [0] ?_)
 refine oP (r := []) [0] (S' := [(0, .string a0)]) ?_
 refine oD (qT (cQ (cR [0] ?_)))
 refine oP (r := []) [0] (S' := [(0, .string a0), (3, iv 0)]) ?_
 refine oD (qT (cQ (cQ (cR [0, 1] ?_))))
 refine oP (r := [1]) [0] (S' := [(3, iv 0), (4, .string a0)]) ?_
 refine oC (Does.rangeStr (d := 5) (T := 9) (s := a0) (by kernel_rfl) Go.Proofs.Tryz.underlying9 hI ?_)
 intro b1 w hI
 refine oD (qT ?_)
 obtain ⟨r1, h1, h0⟩ := bindS h0
 refine CodT.meet1 (fun a w => ∃ (x2 : Int), x2 = r1 ∧ Fr 11 [(3, iv x2)] a ∧ Inv w0 Z w A) ?_ ?_
 ·
  refine jB ?_
  refine (fun a ha => wp_loopN (fun k a w => ∃ (x3 : Int) (x4 : Nat), name_Count.l0 a0 k x3 x4 = some r1 ∧ Fr 11 [(3, iv x3), (5, pb b1)] a ∧ Inv w0 Z w (star (pt b1 (.stringIter a0 x4)) A)) ?_ FU a w ⟨0, 0, h1, ha.keep [3, 5] (by kernel_rfl), hI⟩)
  clear h1 hI
  rintro k a w ⟨x3, x4, h1, ha, hI⟩
  rcases k with _ | k
  ·
   cases h1
  simp only [name_Count.l0] at h1
  refine CodT.of ?_ ha
  refine cQ (cR [0, 1] ?_)
  by_cases hb5 : x4 < a0.size
  ·
   rw [if_pos hb5] at h1
   refine oC (Does.nextStr (d := 6) (b := b1) (pos := x4) (s := a0) (by kernel_rfl) hI hb5 ?_)
   intro w hI
   refine oP (r := []) [1] (S' := [(3, iv x3), (5, pb b1), (7, .bool true)]) ?_
   refine oD (qT (cQ ?_))
   refine CodT.yes (by kernel_rfl) ?_
   refine jS (qT (jB (cR [0, 1, 2] ?_)))
   refine oP (r := []) [0, 1, 2] (S' := [(3, iv (wi64 (x3 + 1))), (5, pb b1)]) ?_
   refine oD (jN ?_)
   exact jT fun a ha => ⟨k, Nat.lt_succ_self k, wi64 (x3 + 1), x4 + runeW a0 x4, h1, ha.keep [3, 5] (by kernel_rfl), hI⟩
  ·
   rw [if_neg hb5] at h1
   refine oC (Does.nextEnd (d := 6) (b := b1) (pos := x4) (s := a0) (by kernel_rfl) hI hb5 ?_)
   refine oP (r := []) [1] (S' := [(3, iv x3), (5, pb b1), (7, .bool false)]) ?_
   refine oD (qT (cQ ?_))
   refine CodT.no (by kernel_rfl) ?_
   refine jZ ?_
   refine jX (jX ?_)
   refine Qn.block ?_
   have hI := hI.drop
   have e := someS h1
   subst e
   exact jT fun a ha => ⟨x3, rfl, ha.keep [3] (by kernel_rfl), hI⟩
 ·
  rintro a w ⟨x2, rfl, ha, hI⟩
  try dsimp only at h0
  refine Qn.of ?_ ha
  refine qT (cQ (cR [0, 1] ?_))
  refine oP (r := []) [0, 1] (S' := [(2, iv x2)]) ?_
  refine oD (qT (jE ?_))
  have e := someS h0
  subst e
  refine qK [2] (S' := [(2, iv x2)]) ?_
  exact post_ret (v := iv x2) (fun a ha => jU (vs := [iv x2]) (.tmp (t := 2) (by kernel_rfl) .nil) ha (by kernel_rfl)) ⟨rfl, hI⟩
/-- cenotaph/name.Valid$1 -/
theorem c92 (w0 w : World) (Z : Hp) (A : HP) (hI : Inv w0 Z w A) (hT : Tabs Z) (a0 : Int) (r : Bool) (h0 : name_Valid_1 a0 = some r) :
  Calls prog 92 #[.int .i32 a0] w (fun e w' => e = .returned (.bool r) ∧ Inv w0 Z w' A) := by
 have e4 := calls_intro (R := (fun e w' => e = .returned (.bool r) ∧ Inv w0 Z w' A)) (w := w) (args := [.int .i32 a0]) (fn := Go.Proofs.Tryz.f92) 21 Go.Proofs.Tryz.func92 (by rfl) Go.Proofs.Tryz.ntmps92 (by kernel_rfl)
 refine e4 ?_
 clear e4
 unfold name_Valid_1 at h0
 refine cQ (cR [0] ?_)
 refine oP (r := []) [0] (S' := [(0, .int .i32 a0)]) ?_
 refine oD (qT ?_)
 obtain ⟨r1, h1, h0⟩ := bindS h0
 refine jM (fun a w => ∃ (x1 : Bool), x1 = r1 ∧ Fr 21 [(2, .bool x1)] a ∧ Inv w0 Z w A) ?_ ?_
 ·
  refine cR [0, 1, 2, 3, 4, 5, 6, 7, 8, 9, 10, 11, 12, 13, 14, 15, 16, 17, 18] ?_
  refine oP (r := [3, 4, 5, 6, 7, 8, 9, 10, 11, 12, 13, 14, 15, 16, 17, 18]) [0, 1, 2] (S' := [(0, .int .i32 a0), (5, .bool (decide (a0 < 32)))]) ?_
  by_cases hb2 : (decide (a0 < 32)) = true
  ·
   rw [if_pos hb2] at h1
   refine OpsT.keep [0, 5] (S' := [(0, .int .i32 a0), (5, .bool true)]) (by (try simp only [hb2]); kernel_rfl) ?_
   refine oP (r := []) [3, 4, 5, 6, 7, 8, 9, 10, 11, 12, 13, 14, 15, 16, 17, 18] (S' := [(2, .bool true)]) ?_
   refine oD ?_
   have e := someS h1
   subst e
   exact jT fun a ha => ⟨true, rfl, ha.keep [2] (by kernel_rfl), hI⟩
  ·
   rw [if_neg hb2] at h1
   have hb2 : (decide (a0 < 32)) = false := by simpa using hb2
   refine OpsT.keep [0, 5] (S' := [(0, .int .i32 a0), (5, .bool false)]) (by (try simp only [hb2]); kernel_rfl) ?_
   refine oP (r := [7, 8, 9, 10, 11, 12, 13, 14, 15, 16, 17, 18]) [3, 4, 5, 6] (S' := [(0, .int .i32 a0), (9, .bool (a0 == 47))]) ?_
   by_cases hb3 : (a0 == 47) = true
   ·
    rw [if_pos hb3] at h1
    refine OpsT.keep [0, 9] (S' := [(0, .int .i32 a0), (9, .bool true)]) (by (try simp only [hb3]); kernel_rfl) ?_
    refine oP (r := []) [7, 8, 9, 10, 11, 12, 13, 14, 15, 16, 17, 18] (S' := [(2, .bool true)]) ?_
    refine oD ?_
    have e := someS h1
    subst e
    exact jT fun a ha => ⟨true, rfl, ha.keep [2] (by kernel_rfl), hI⟩
   ·
    rw [if_neg hb3] at h1
    have hb3 : (a0 == 47) = false := by simpa using hb3
    refine OpsT.keep [0, 9] (S' := [(0, .int .i32 a0), (9, .bool false)]) (by (try simp only [hb3]); kernel_rfl) ?_
    refine oP (r := [10, 11, 12, 13, 14, 15, 16, 17, 18]) [7, 8, 9] (S' := [(0, .int .i32 a0), (9, .bool false), (12, .bool (decide ((127 : Int) ≤ a0)))]) ?_
    by_cases hb4 : (decide ((127 : Int) ≤ a0)) = true
    ·
     rw [if_pos hb4] at h1
     refine OpsT.keep [0, 9, 12] (S' := [(0, .int .i32 a0), (9, .bool false), (12, .bool true)]) (by (try simp only [hb4]); kernel_rfl) ?_
     refine oP (r := [15, 16, 17, 18]) [10, 11, 12, 13, 14] (S' := [(0, .int .i32 a0), (17, .bool (decide (a0 ≤ 159)))]) ?_
     by_cases hb5 : (decide (a0 ≤ 159)) = true
     ·
      rw [if_pos hb5] at h1
      refine OpsT.keep [0, 17] (S' := [(0, .int .i32 a0), (17, .bool true)]) (by (try simp only [hb5]); kernel_rfl) ?_
      refine oP (r := []) [15, 16, 17, 18] (S' := [(2, .bool true)]) ?_
      refine oD ?_
      have e := someS h1
      subst e
      exact jT fun a ha => ⟨true, rfl, ha.keep [2] (by kernel_rfl), hI⟩
     ·
      rw [if_neg hb5] at h1
      have hb5 : (decide (a0 ≤ 159)) = false := by simpa using hb5
      refine OpsT.keep [0, 17] (S' := [(0, .int .i32 a0), (17, .bool false)]) (by (try simp only [hb5]); kernel_rfl) ?_
      refine oP (r := []) [15, 16, 17, 18] (S' := [(2, .bool (a0 == 65533))]) ?_
      refine oD ?_
      have e := someS h1
      subst e
      exact jT fun a ha => ⟨a0 == 65533, rfl, ha.keep [2] (by kernel_rfl), hI⟩
    ·
     rw [if_neg hb4] at h1
     have hb4 : (decide ((127 : Int) ≤ a0)) = false := by simpa using hb4
     refine OpsT.keep [0, 9, 12] (S' := [(0, .int .i32 a0), (9, .bool false), (12, .bool false)]) (by (try simp only [hb4]); kernel_rfl) ?_
     refine oP (r := []) [10, 11, 12, 13, 14, 15, 16, 17, 18] (S' := [(2, .bool (a0 == 65533))]) ?_
     refine oD ?_
     have e := someS h1
     subst e
     exact jT fun a ha => ⟨a0 == 65533, rfl, ha.keep [2] (by kernel_rfl), hI⟩
 ·
  rintro a w ⟨x1, rfl, ha, hI⟩
  try dsimp only at h0
  refine CodT.of ?_ ha
  refine jE ?_
  have e := someS h0
  subst e
  refine qK [2] (S' := [(2, .bool x1)]) ?_
  exact post_ret (v := .bool x1) (fun a ha => jU (vs := [.bool x1]) (.tmp (t := 2) (by kernel_rfl) .nil) ha (by kernel_rfl)) ⟨rfl, hI⟩
/-- strings.indexFunc -/
theorem c109 (w0 w : World) (Z : Hp) (A : HP) (hI : Inv w0 Z w A) (hT : Tabs Z) (a0 : ByteArray) (a2 : Bool) (r : Int) (h0 : strings_indexFunc__name_Valid_1 a0 a2 = some r) :
  Calls prog 109 #[.string a0, .func (.func 92) #[] #[], .bool a2] w (fun e w' => e = .returned (iv r) ∧ Inv w0 Z w' A) := by
 have e4 := calls_intro (R := (fun e w' => e = .returned (iv r) ∧ Inv w0 Z w' A)) (w := w) (args := [.string a0, .func (.func 92) #[] #[], .bool a2]) (fn := Go.Proofs.Tryz.f109) 21 Go.Proofs.Tryz.func109 (by rfl) Go.Proofs.Tryz.ntmps109 (by kernel_rfl)
 refine e4 ?_
 clear e4
 unfold strings_indexFunc__name_Valid_1 at h0
 refine cQ (cR [0] ?_)
 refine oP (r := []) [0] (S' := [(0, .string a0), (1, .func (.func 92) #[] #[]), (2, .bool a2)]) ?_
 refine oD (qT (cQ (cQ (cR [0, 1] ?_))))
 refine oP (r := [1]) [0] (S' := [(1, .func (.func 92) #[] #[]), (2, .bool a2), (9, .string a0)]) ?_
 refine oC (Does.rangeStr (d := 10) (T := 9) (s := a0) (by kernel_rfl) Go.Proofs.Tryz.underlying9 hI ?_)
 intro b1 w hI
 refine oD (qT ?_)
 obtain ⟨r1, h1, h0⟩ := bindS h0
 refine CodT.meet1 (fun a w => .inr () = r1 ∧ Fr 21 [] a ∧ Inv w0 Z w A) ?_ ?_
 ·
  refine jB ?_
  refine (fun a ha => wp_loopN (fun k a w => ∃ (x2 : Nat), strings_indexFunc__name_Valid_1.l0 a0 a2 k x2 = some r1 ∧ Fr 21 [(1, .func (.func 92) #[] #[]), (2, .bool a2), (10, pb b1)] a ∧ Inv w0 Z w (star (pt b1 (.stringIter a0 x2)) A)) ?_ FU a w ⟨0, h1, ha.keep [1, 2, 10] (by kernel_rfl), hI⟩)
  clear h1 hI
  rintro k a w ⟨x2, h1, ha, hI⟩
  rcases k with _ | k
  ·
   cases h1
  simp only [strings_indexFunc__name_Valid_1.l0] at h1
  refine CodT.of ?_ ha
  refine cQ (cR [0, 1] ?_)
  by_cases hb3 : x2 < a0.size
  ·
   rw [if_pos hb3] at h1
   refine oC (Does.nextStr (d := 11) (b := b1) (pos := x2) (s := a0) (by kernel_rfl) hI hb3 ?_)
   intro w hI
   refine oP (r := []) [1] (S' := [(1, .func (.func 92) #[] #[]), (2, .bool a2), (10, pb b1), (11, .tuple #[.bool true, iv (x2 : Int), .int .i32 (runeAt a0 x2)]), (12, .bool true)]) ?_
   refine oD (qT (cQ ?_))
   refine CodT.yes (by kernel_rfl) ?_
   refine jS (qT (jB (cQ (cR [0, 1, 2, 3] ?_))))
   refine oP (r := []) [0, 1, 2, 3] (S' := [(1, .func (.func 92) #[] #[]), (2, .bool a2), (7, iv (x2 : Int)), (8, .int .i32 (runeAt a0 x2)), (10, pb b1)]) ?_
   refine oD (qT (cQ (cR [0, 1, 2, 3, 4] ?_)))
   refine oP (r := [2, 3, 4]) [0, 1] (S' := [(1, .func (.func 92) #[] #[]), (2, .bool a2), (7, iv (x2 : Int)), (10, pb b1), (15, .func (.func 92) #[] #[]), (16, .int .i32 (runeAt a0 x2))]) ?_
   obtain ⟨y5, hc4, h1⟩ := bindS h1
   try dsimp only at h1
   refine oC (jC (d := some 17) (n := 92) (vs := [.int .i32 (runeAt a0 x2)]) (by kernel_rfl) en92 (c92 w0 w _ _ hI hT (runeAt a0 x2) _ hc4) ?_)
   rintro e w ⟨rfl, hI⟩
   refine ⟨_, rfl, ?_⟩
   refine oP (r := []) [3, 4] (S' := [(1, .func (.func 92) #[] #[]), (2, .bool a2), (7, iv (x2 : Int)), (10, pb b1), (19, .bool (y5 == a2))]) ?_
   refine oD (qT ?_)
   by_cases hb6 : (y5 == a2) = true
   ·
    rw [if_pos hb6] at h1
    refine cY (b := y5 == a2) hb6 ?_
    refine cQ (cR [0, 1] ?_)
    refine oP (r := []) [0, 1] (S' := [(6, iv (x2 : Int))]) ?_
    refine oD (qT (jE (jQ (jR (jQ (jR (jR ?_)))))))
    have hI := hI.drop
    have e := someS h1
    subst e
    try dsimp only at h0
    have e := someS h0
    subst e
    refine qK [6] (S' := [(6, iv (x2 : Int))]) ?_
    exact post_ret (v := iv (x2 : Int)) (fun a ha => jU (vs := [iv (x2 : Int)]) (.tmp (t := 6) (by kernel_rfl) .nil) ha (by kernel_rfl)) ⟨rfl, hI⟩
   ·
    rw [if_neg hb6] at h1
    refine cN (b := y5 == a2) (by simpa using hb6) ?_
    refine jS (jN ?_)
    exact jT fun a ha => ⟨k, Nat.lt_succ_self k, x2 + runeW a0 x2, h1, ha.keep [1, 2, 10] (by kernel_rfl), hI⟩
  ·
   rw [if_neg hb3] at h1
   refine oC (Does.nextEnd (d := 11) (b := b1) (pos := x2) (s := a0) (by kernel_rfl) hI hb3 ?_)
   refine oP (r := []) [1] (S' := [(1, .func (.func 92) #[] #[]), (2, .bool a2), (10, pb b1), (11, .tuple #[.bool false]), (12, .bool false)]) ?_
   refine oD (qT (cQ ?_))
   refine CodT.no (by kernel_rfl) ?_
   refine jZ ?_
   refine jX (jX ?_)
   refine Qn.block ?_
   have hI := hI.drop
   have e := someS h1
   subst e
   exact jT fun a ha => ⟨rfl, ha.keep [] (by kernel_rfl), hI⟩
 ·
  rintro a w ⟨rfl, ha, hI⟩
  try dsimp only at h0
  refine Qn.of ?_ ha
  refine qT (cQ (cR [0] ?_))
  refine oP (r := []) [0] (S' := [(6, iv (-1))]) ?_
  refine oD (qT (jE ?_))
  have e := someS h0
  subst e
  refine qK [6] (S' := [(6, iv (-1))]) ?_
  exact post_ret (v := iv (-1)) (fun a ha => jU (vs := [iv (-1)]) (.tmp (t := 6) (by kernel_rfl) .nil) ha (by kernel_rfl)) ⟨rfl, hI⟩
/-- strings.IndexFunc -/
theorem c94 (w0 w : World) (Z : Hp) (A : HP) (hI : Inv w0 Z w A) (hT : Tabs Z) (a0 : ByteArray) (r : Int) (h0 : strings_IndexFunc__name_Valid_1 a0 = some r) :
  Calls prog 94 #[.string a0, .func (.func 92) #[] #[]] w (fun e w' => e = .returned (iv r) ∧ Inv w0 Z w' A) := by
 have e4 := calls_intro (R := (fun e w' => e = .returned (iv r) ∧ Inv w0 Z w' A)) (w := w) (args := [.string a0, .func (.func 92) #[] #[]]) (fn := Go.Proofs.Tryz.f94) 8 Go.Proofs.Tryz.func94 (by rfl) Go.Proofs.Tryz.ntmps94 (by kernel_rfl)
 refine e4 ?_
 clear e4
 unfold strings_IndexFunc__name_Valid_1 at h0
 refine cQ (cR [0] ?_)
 refine oP (r := []) [0] (S' := [(0, .string a0), (1, .func (.func 92) #[] #[])]) ?_
 refine oD (qT (cQ (cR [0, 1, 2, 3] ?_)))
 refine oP (r := [2, 3]) [0, 1] (S' := [(5, .string a0), (6, .func (.func 92) #[] #[])]) ?_
 obtain ⟨y2, hc1, h0⟩ := bindS h0
 try dsimp only at h0
 refine oC (jC (d := some 7) (n := 109) (vs := [.string a0, .func (.func 92) #[] #[], .bool true]) (by kernel_rfl) en109 (c109 w0 w _ _ hI hT a0 true _ hc1) ?_)
 rintro e w ⟨rfl, hI⟩
 refine ⟨_, rfl, ?_⟩
 refine oP (r := []) [3] (S' := [(4, iv y2)]) ?_
 refine oD (qT (jE ?_))
 have e := someS h0
 subst e
 refine qK [4] (S' := [(4, iv y2)]) ?_
 exact post_ret (v := iv y2) (fun a ha => jU (vs := [iv y2]) (.tmp (t := 4) (by kernel_rfl) .nil) ha (by kernel_rfl)) ⟨rfl, hI⟩
/-- cenotaph/name.Valid -/
theorem c73 (w0 w : World) (Z : Hp) (A : HP) (hI : Inv w0 Z w A) (hT : Tabs Z) (a0 : ByteArray) (r : Bool) (h0 : name_Valid a0 = some r) :
  Calls prog 73 #[.string a0] w (fun e w' => e = .returned (.bool r) ∧ Inv w0 Z w' A) := by
 have e4 := calls_intro (R := (fun e w' => e = .returned (.bool r) ∧ Inv w0 Z w' A)) (w := w) (args := [.string a0]) (fn := Go.Proofs.Tryz.f73) 32 Go.Proofs.Tryz.func73 (by rfl) Go.Proofs.Tryz.ntmps73 (by kernel_rfl)
 refine e4 ?_
 clear e4
 unfold name_Valid at h0
 refine cQ (cR [0] ?_)
 refine oP (r := []) [0] (S' := [(0, .string a0)]) ?_
 refine oD (qT (cQ (cR [0] ?_)))
 refine oP (r := []) [0] (S' := [(0, .string a0), (3, .func (.func 92) #[] #[])]) ?_
 refine oD (qT (cQ (cR [0, 1, 2] ?_)))
 refine oP (r := [1, 2]) [0] (S' := [(0, .string a0), (3, .func (.func 92) #[] #[]), (5, .string a0)]) ?_
 obtain ⟨y2, hc1, h0⟩ := bindS h0
 try dsimp only at h0
 refine oC (jC (d := some 6) (n := 93) (vs := [.string a0]) (by kernel_rfl) en93 (c93 w0 w _ _ hI hT a0 _ hc1) ?_)
 rintro e w ⟨rfl, hI⟩
 refine ⟨_, rfl, ?_⟩
 refine oP (r := []) [2] (S' := [(0, .string a0), (3, .func (.func 92) #[] #[]), (4, iv y2)]) ?_
 refine oD (qT ?_)
 obtain ⟨r1, h1, h0⟩ := bindS h0
 refine jM (fun a w => ∃ (x3 : Bool), x3 = r1 ∧ Fr 32 [(2, .bool x3)] a ∧ Inv w0 Z w A) ?_ ?_
 ·
  refine cR [0, 1, 2, 3, 4, 5, 6, 7, 8, 9, 10, 11, 12, 13, 14, 15, 16, 17, 18, 19, 20, 21, 22, 23, 24, 25] ?_
  refine oP (r := [3, 4, 5, 6, 7, 8, 9, 10, 11, 12, 13, 14, 15, 16, 17, 18, 19, 20, 21, 22, 23, 24, 25]) [0, 1, 2] (S' := [(0, .string a0), (3, .func (.func 92) #[] #[]), (4, iv y2), (9, .bool (decide (y2 > 0)))]) ?_
  by_cases hb4 : (decide (y2 > 0)) = true
  ·
   rw [if_pos hb4] at h1
   refine OpsT.keep [0, 3, 4, 9] (S' := [(0, .string a0), (3, .func (.func 92) #[] #[]), (4, iv y2), (9, .bool true)]) (by (try simp only [hb4]); kernel_rfl) ?_
   refine oP (r := [7, 8, 9, 10, 11, 12, 13, 14, 15, 16, 17, 18, 19, 20, 21, 22, 23, 24, 25]) [3, 4, 5, 6] (S' := [(0, .string a0), (3, .func (.func 92) #[] #[]), (13, .bool (decide (y2 ≤ 24)))]) ?_
   by_cases hb5 : (decide (y2 ≤ 24)) = true
   ·
    rw [if_pos hb5] at h1
    refine OpsT.keep [0, 3, 13] (S' := [(0, .string a0), (3, .func (.func 92) #[] #[]), (13, .bool true)]) (by (try simp only [hb5]); kernel_rfl) ?_
    refine oP (r := [9, 10, 11, 12, 13, 14, 15, 16, 17, 18, 19, 20, 21, 22, 23, 24, 25]) [7, 8] (S' := [(0, .string a0), (13, .bool true), (14, .string a0), (15, .func (.func 92) #[] #[])]) ?_
    obtain ⟨y7, hc6, h1⟩ := bindS h1
    try dsimp only at h1
    refine oC (jC (d := some 16) (n := 94) (vs := [.string a0, .func (.func 92) #[] #[]]) (by kernel_rfl) en94 (c94 w0 w _ _ hI hT a0 _ hc6) ?_)
    rintro e w ⟨rfl, hI⟩
    refine ⟨_, rfl, ?_⟩
    refine oP (r := [13, 14, 15, 16, 17, 18, 19, 20, 21, 22, 23, 24, 25]) [10, 11, 12] (S' := [(0, .string a0), (19, .bool (decide (y7 < 0)))]) ?_
    by_cases hb8 : (decide (y7 < 0)) = true
    ·
     rw [if_pos hb8] at h1
     refine OpsT.keep [0, 19] (S' := [(0, .string a0), (19, .bool true)]) (by (try simp only [hb8]); kernel_rfl) ?_
     refine oP (r := [14, 15, 16, 17, 18, 19, 20, 21, 22, 23, 24, 25]) [13] (S' := [(0, .string a0), (19, .bool true), (20, .string a0)]) ?_
     obtain ⟨hg9, h1⟩ := guardS h1
     refine oC (jY (Yl.indexStr (d := 21) (T := 9) (k := .i64) (j := 0) (s := a0) (by kernel_rfl) Go.Proofs.Tryz.underlying9 hg9.1 hg9.2) hI ?_)
     refine oP (r := [18, 19, 20, 21, 22, 23, 24, 25]) [15, 16, 17] (S' := [(0, .string a0), (24, .bool ((bt a0 0) != 32))]) ?_
     by_cases hb10 : ((bt a0 0) != 32) = true
     ·
      rw [if_pos hb10] at h1
      refine OpsT.keep [0, 24] (S' := [(0, .string a0), (24, .bool true)]) (by (try simp only [hb10]); kernel_rfl) ?_
      refine oP (r := [22, 23, 24, 25]) [18, 19, 20, 21] (S' := [(24, .bool true), (25, .string a0), (28, iv (wi64 ((a0.size : Int) - 1)))]) ?_
      obtain ⟨hg11, h1⟩ := guardS h1
      refine oC (jY (Yl.indexStr (d := 29) (T := 9) (k := .i64) (j := wi64 ((a0.size : Int) - 1)) (s := a0) (by kernel_rfl) Go.Proofs.Tryz.underlying9 hg11.1 hg11.2) hI ?_)
      refine oP (r := []) [23, 24, 25] (S' := [(2, .bool ((bt a0 (wi64 ((a0.size : Int) - 1))) != 32))]) ?_
      refine oD ?_
      have e := someS h1
      subst e
      exact jT fun a ha => ⟨(bt a0 (wi64 ((a0.size : Int) - 1))) != 32, rfl, ha.keep [2] (by kernel_rfl), hI⟩
     ·
      rw [if_neg hb10] at h1
      have hb10 : ((bt a0 0) != 32) = false := by simpa using hb10
      refine OpsT.keep [0, 24] (S' := [(0, .string a0), (24, .bool false)]) (by (try simp only [hb10]); kernel_rfl) ?_
      refine oP (r := []) [18, 19, 20, 21, 22, 23, 24, 25] (S' := [(2, .bool false)]) ?_
      refine oD ?_
      have e := someS h1
      subst e
      exact jT fun a ha => ⟨false, rfl, ha.keep [2] (by kernel_rfl), hI⟩
    ·
     rw [if_neg hb8] at h1
     have hb8 : (decide (y7 < 0)) = false := by simpa using hb8
     refine OpsT.keep [0, 19] (S' := [(0, .string a0), (19, .bool false)]) (by (try simp only [hb8]); kernel_rfl) ?_
     refine oP (r := []) [13, 14, 15, 16, 17, 18, 19, 20, 21, 22, 23, 24, 25] (S' := [(2, .bool false)]) ?_
     refine oD ?_
     have e := someS h1
     subst e
     exact jT fun a ha => ⟨false, rfl, ha.keep [2] (by kernel_rfl), hI⟩
   ·
    rw [if_neg hb5] at h1
    have hb5 : (decide (y2 ≤ 24)) = false := by simpa using hb5
    refine OpsT.keep [0, 3, 13] (S' := [(0, .string a0), (3, .func (.func 92) #[] #[]), (13, .bool false)]) (by (try simp only [hb5]); kernel_rfl) ?_
    refine oP (r := []) [7, 8, 9, 10, 11, 12, 13, 14, 15, 16, 17, 18, 19, 20, 21, 22, 23, 24, 25] (S' := [(2, .bool false)]) ?_
    refine oD ?_
    have e := someS h1
    subst e
    exact jT fun a ha => ⟨false, rfl, ha.keep [2] (by kernel_rfl), hI⟩
  ·
   rw [if_neg hb4] at h1
   have hb4 : (decide (y2 > 0)) = false := by simpa using hb4
   refine OpsT.keep [0, 3, 4, 9] (S' := [(0, .string a0), (3, .func (.func 92) #[] #[]), (4, iv y2), (9, .bool false)]) (by (try simp only [hb4]); kernel_rfl) ?_
   refine oP (r := []) [3, 4, 5, 6, 7, 8, 9, 10, 11, 12, 13, 14, 15, 16, 17, 18, 19, 20, 21, 22, 23, 24, 25] (S' := [(2, .bool false)]) ?_
   refine oD ?_
   have e := someS h1
   subst e
   exact jT fun a ha => ⟨false, rfl, ha.keep [2] (by kernel_rfl), hI⟩
 ·
  rintro a w ⟨x3, rfl, ha, hI⟩
  try dsimp only at h0
  refine CodT.of ?_ ha
  refine jE ?_
  have e := someS h0
  subst e
  refine qK [2] (S' := [(2, .bool x3)]) ?_
  exact post_ret (v := .bool x3) (fun a ha => jU (vs := [.bool x3]) (.tmp (t := 2) (by kernel_rfl) .nil) ha (by kernel_rfl)) ⟨rfl, hI⟩
/-- cenotaph/event.within -/
theorem c74 (w0 w : World) (Z : Hp) (A : HP) (hI : Inv w0 Z w A) (hT : Tabs Z) (a0 : Int) (a1 : Int) (a2 : Int) (r : Bool) (h0 : event_within a0 a1 a2 = some r) :
  Calls prog 74 #[iv a0, iv a1, iv a2] w (fun e w' => e = .returned (.bool r) ∧ Inv w0 Z w' A) := by
 have e4 := calls_intro (R := (fun e w' => e = .returned (.bool r) ∧ Inv w0 Z w' A)) (w := w) (args := [iv a0, iv a1, iv a2]) (fn := Go.Proofs.Tryz.f74) 15 Go.Proofs.Tryz.func74 (by rfl) Go.Proofs.Tryz.ntmps74 (by kernel_rfl)
 refine e4 ?_
 clear e4
 unfold event_within at h0
 refine cQ (cR [0] ?_)
 refine oP (r := []) [0] (S' := [(0, iv a0), (1, iv a1), (2, iv a2)]) ?_
 refine oD (qT ?_)
 obtain ⟨r1, h1, h0⟩ := bindS h0
 refine jM (fun a w => ∃ (x1 : Bool), x1 = r1 ∧ Fr 15 [(6, .bool x1)] a ∧ Inv w0 Z w A) ?_ ?_
 ·
  refine cR [0, 1, 2, 3, 4, 5, 6, 7, 8] ?_
  refine oP (r := [4, 5, 6, 7, 8]) [0, 1, 2, 3] (S' := [(0, iv a0), (2, iv a2), (10, .bool (decide (a1 ≤ a0)))]) ?_
  by_cases hb2 : (decide (a1 ≤ a0)) = true
  ·
   rw [if_pos hb2] at h1
   refine OpsT.keep [0, 2, 10] (S' := [(0, iv a0), (2, iv a2), (10, .bool true)]) (by (try simp only [hb2]); kernel_rfl) ?_
   refine oP (r := []) [4, 5, 6, 7, 8] (S' := [(6, .bool (decide (a0 ≤ a2)))]) ?_
   refine oD ?_
   have e := someS h1
   subst e
   exact jT fun a ha => ⟨decide (a0 ≤ a2), rfl, ha.keep [6] (by kernel_rfl), hI⟩
  ·
   rw [if_neg hb2] at h1
   have hb2 : (decide (a1 ≤ a0)) = false := by simpa using hb2
   refine OpsT.keep [0, 2, 10] (S' := [(0, iv a0), (2, iv a2), (10, .bool false)]) (by (try simp only [hb2]); kernel_rfl) ?_
   refine oP (r := []) [4, 5, 6, 7, 8] (S' := [(6, .bool false)]) ?_
   refine oD ?_
   have e := someS h1
   subst e
   exact jT fun a ha => ⟨false, rfl, ha.keep [6] (by kernel_rfl), hI⟩
 ·
  rintro a w ⟨x1, rfl, ha, hI⟩
  try dsimp only at h0
  refine CodT.of ?_ ha
  refine jE ?_
  have e := someS h0
  subst e
  refine qK [6] (S' := [(6, .bool x1)]) ?_
  exact post_ret (v := .bool x1) (fun a ha => jU (vs := [.bool x1]) (.tmp (t := 6) (by kernel_rfl) .nil) ha (by kernel_rfl)) ⟨rfl, hI⟩
/-- cenotaph/event.Valid -/
theorem c51 (w0 w : World) (Z : Hp) (A : HP) (hI : Inv w0 Z w A) (hT : Tabs Z) (a0 : ApiEvent) (hl1 : a0.Sum.length = 32) (r : Bool) (h0 : event_Valid a0 = some r) :
  Calls prog 51 #[.agg (c_ApiEvent a0).toArray] w (fun e w' => e = .returned (.bool r) ∧ Inv w0 Z w' A) := by
 have e4 := calls_intro (R := (fun e w' => e = .returned (.bool r) ∧ Inv w0 Z w' A)) (w := w) (args := [.agg (c_ApiEvent a0).toArray]) (fn := Go.Proofs.Tryz.f51) 63 Go.Proofs.Tryz.func51 (by rfl) Go.Proofs.Tryz.ntmps51 (by kernel_rfl)
 refine e4 ?_
 clear e4
 unfold event_Valid at h0
 refine cQ (cR [0, 1] ?_)
 refine oC (Does.boxL (d := 1) (T := 50) (v := .agg (c_ApiEvent a0).toArray) (c_ApiEvent a0) (by kernel_rfl) hI (by kernel_rfl) ?_)
 intro b2 w hI
 refine oP (r := []) [1] (S' := [(1, pb b2)]) ?_
 refine oD (qT (cQ (cR [0, 1, 2] ?_)))
 refine oC (jY (jL (d := 10) (T := 50) (v := .agg (c_ApiEvent a0).toArray) (by kernel_rfl) (ldBN ty50 (l := c_ApiEvent a0) (o := 0) (cs := c_ApiEvent a0) (ent_refl _) (len_ApiEvent _ hl1) (whole _ _ (len_ApiEvent _ hl1)))) hI ?_)
 obtain ⟨y4, hc3, h0⟩ := bindS h0
 try dsimp only at h0
 refine oC (jC (d := some 11) (n := 52) (vs := [.agg (c_ApiEvent a0).toArray]) (by kernel_rfl) en52 (c52 w0 w _ _ hI hT a0 hl1 _ hc3) ?_)
 rintro e w ⟨A5, cp6, rfl, hI⟩
 refine ⟨_, rfl, ?_⟩
 refine oP (r := []) [2] (S' := [(1, pb b2), (3, .slice A5 y4.length cp6)]) ?_
 refine oD (qT ?_)
 obtain ⟨Z7, hle8, hr9, hI⟩ := ownS_freeze hI
 refine cQ ?_
 obtain ⟨r1, h1, h0⟩ := bindS h0
 refine jM (fun a w => ∃ (x10 : Bool), x10 = r1 ∧ Fr 63 [(1, pb b2), (3, .slice A5 y4.length cp6), (22, .bool x10)] a ∧ Inv w0 Z7 w (star (pt b2 (.cells (c_ApiEvent a0).toArray 50 (0, 0))) A)) ?_ ?_
 ·
  refine CodT.drawI (n := 11) [] (by kernel_rfl) (by kernel_rfl) hI ?_
  intro w hI
  refine gP 0 12 (.slice A5 y4.length cp6) ?_
  refine gP 1 13 (iv (y4.length : Int)) ?_
  refine gP 2 14 (.bool ((y4.length : Int) == 0)) ?_
  refine gP 3 15 (.bool ((y4.length : Int) == 0)) ?_
  by_cases hb11 : ((y4.length : Int) == 0) = true
  ·
   rw [if_pos hb11] at h1
   refine GmT.keep [1, 3, 15] (S' := [(1, pb b2), (3, .slice A5 y4.length cp6), (15, .bool true)]) (by (try simp only [hb11]); kernel_rfl) ?_
   refine gP 4 16 (undef) ?_
   refine gP 5 17 (undef) ?_
   refine gP 6 18 (undef) ?_
   refine gP 7 19 (undef) ?_
   refine gP 8 20 (undef) ?_
   refine gP 9 21 (undef) ?_
   refine gP 10 22 (.bool true) ?_
   refine jD (by kernel_rfl) ?_
   have e := someS h1
   subst e
   exact jT fun a ha => ⟨true, rfl, ha.keep [1, 3, 22] (by kernel_rfl), hI⟩
  ·
   rw [if_neg hb11] at h1
   have hb11 : ((y4.length : Int) == 0) = false := by simpa using hb11
   refine GmT.keep [1, 3, 15] (S' := [(1, pb b2), (3, .slice A5 y4.length cp6), (15, .bool false)]) (by (try simp only [hb11]); kernel_rfl) ?_
   refine gP 4 16 (pb b2) ?_
   refine gP 6 18 (.slice A5 y4.length cp6) ?_
   refine gR (i := 5) 2 (jL (d := 17) (T := 48) (v := iv a0.Kind) (by kernel_rfl) (ldB ty48 (l := c_ApiEvent a0) (o := 0) (v := iv a0.Kind) (ent_refl _) (by kernel_rfl))) hI ?_
   refine gR (i := 8) 2 (jL (d := 20) (T := 50) (v := .agg (c_ApiEvent a0).toArray) (by kernel_rfl) (ldBN ty50 (l := c_ApiEvent a0) (o := 0) (cs := c_ApiEvent a0) (ent_refl _) (len_ApiEvent _ hl1) (whole _ _ (len_ApiEvent _ hl1)))) hI ?_
   obtain ⟨y13, hc12, h1⟩ := bindS h1
   try dsimp only at h1
   refine jO (i := 7) (by kernel_rfl) (jC (d := some 19) (n := 72) (vs := [iv a0.Kind, .slice A5 y4.length cp6]) (by kernel_rfl) en72 (c72 w0 w _ _ hI (hT.mono hle8) a0.Kind A5 cp6 y4 hr9 _ hc12) ?_)
   rintro e w ⟨rfl, hl14, hI⟩
   refine ⟨_, rfl, ?_⟩
   refine ⟨fun _ _ => hI, ?_⟩
   refine gR (i := 9) 2 (Yl.neqS (d := 21) (T := 50) (xs := ([iv y13.Kind, iv y13.ID, .string y13.Name, iv y13.Time, iv y13.Len] : LV) ++ (q8c y13.Sum)) (ys := ([iv a0.Kind, iv a0.ID, .string a0.Name, iv a0.Time, iv a0.Len] : LV) ++ (q8c a0.Sum)) (r := eq_ApiEvent y13 a0) (by kernel_rfl) Go.Proofs.Tryz.underlying50 (by kernel_rfl) (by kernel_rfl) (.cons rfl (part1 (v := iv y13.Kind) ty48 (by kernel_rfl)) (part1 (v := iv a0.Kind) ty48 (by kernel_rfl)) (eqI Go.Proofs.Tryz.underlying48) (.cons rfl (part1 (v := iv y13.ID) ty3 (by kernel_rfl)) (part1 (v := iv a0.ID) ty3 (by kernel_rfl)) (eqI Go.Proofs.Tryz.underlying3) (.cons rfl (part1 (v := .string y13.Name) ty9 (by kernel_rfl)) (part1 (v := .string a0.Name) ty9 (by kernel_rfl)) (eqS Go.Proofs.Tryz.underlying9) (.cons rfl (part1 (v := iv y13.Time) ty3 (by kernel_rfl)) (part1 (v := iv a0.Time) ty3 (by kernel_rfl)) (eqI Go.Proofs.Tryz.underlying3) (.cons rfl (part1 (v := iv y13.Len) ty3 (by kernel_rfl)) (part1 (v := iv a0.Len) ty3 (by kernel_rfl)) (eqI Go.Proofs.Tryz.underlying3) (.cons rfl (partN ty23 (tail_take _ _ _ _ _ (by kernel_rfl) hl14)) (partN ty23 (tail_take _ _ _ _ _ (by kernel_rfl) hl1)) (eqAr Go.Proofs.Tryz.underlying23 Go.Proofs.Tryz.underlying5 ty5 hl14 hl1) .nil))))))) hI ?_
   refine gP 10 22 (.bool (!(eq_ApiEvent y13 a0))) ?_
   refine jD (by kernel_rfl) ?_
   have e := someS h1
   subst e
   exact jT fun a ha => ⟨!(eq_ApiEvent y13 a0), rfl, ha.keep [1, 3, 22] (by kernel_rfl), hI⟩
 ·
  rintro a w ⟨x10, rfl, ha, hI⟩
  try dsimp only at h0
  refine CodT.of ?_ ha
  by_cases hb15 : x10 = true
  ·
   rw [if_pos hb15] at h0
   refine cY (b := x10) hb15 ?_
   refine cQ (cR [0] ?_)
   refine oP (r := []) [0] (S' := [(2, .bool false)]) ?_
   refine oD (qT (jE (jR ?_)))
   have hI := hI.drop
   have e := someS h0
   subst e
   refine qK [2] (S' := [(2, .bool false)]) ?_
   exact post_ret (v := .bool false) (fun a ha => jU (vs := [.bool false]) (.tmp (t := 2) (by kernel_rfl) .nil) ha (by kernel_rfl)) ⟨rfl, hI.weaken hle8⟩
  ·
   rw [if_neg hb15] at h0
   refine cN (b := x10) (by simpa using hb15) ?_
   refine jS (qT (cQ (cR [0] ?_)))
   refine oP (r := []) [0] (S' := [(1, pb b2), (3, .slice A5 y4.length cp6), (4, iv 0)]) ?_
   refine oD (qT ?_)
   obtain ⟨r1, h1, h0⟩ := bindS h0
   refine jM (fun a w => ∃ (x16 : Int), x16 = r1 ∧ Fr 63 [(1, pb b2), (3, .slice A5 y4.length cp6), (4, iv x16)] a ∧ Inv w0 Z7 w (star (pt b2 (.cells (c_ApiEvent a0).toArray 50 (0, 0))) A)) ?_ ?_
   ·
    refine cQ (cR [0, 1, 2] ?_)
    refine oP (r := [1, 2]) [0] (S' := [(1, pb b2), (3, .slice A5 y4.length cp6), (4, iv 0), (23, pb b2)]) ?_
    refine oC (jY (jL (d := 24) (T := 48) (v := iv a0.Kind) (by kernel_rfl) (ldB ty48 (l := c_ApiEvent a0) (o := 0) (v := iv a0.Kind) (ent_refl _) (by kernel_rfl))) hI ?_)
    refine oP (r := []) [2] (S' := [(1, pb b2), (3, .slice A5 y4.length cp6), (4, iv 0), (25, .bool (a0.Kind == 1))]) ?_
    refine oD (qT ?_)
    by_cases hb17 : (a0.Kind == 1) = true
    ·
     rw [if_pos hb17] at h1
     refine cY (b := a0.Kind == 1) hb17 ?_
     refine cR [0] ?_
     refine oP (r := []) [0] (S' := [(1, pb b2), (3, .slice A5 y4.length cp6), (4, iv 1)]) ?_
     refine oD ?_
     have e := someS h1
     subst e
     exact jT fun a ha => ⟨1, rfl, ha.keep [1, 3, 4] (by kernel_rfl), hI⟩
    ·
     rw [if_neg hb17] at h1
     refine cN (b := a0.Kind == 1) (by simpa using hb17) ?_
     refine jS ?_
     have e := someS h1
     subst e
     exact jT fun a ha => ⟨0, rfl, ha.keep [1, 3, 4] (by kernel_rfl), hI⟩
   ·
    rintro a w ⟨x16, rfl, ha, hI⟩
    try dsimp only at h0
    refine CodT.of ?_ ha
    refine cQ (cR [0] ?_)
    refine oP (r := []) [0] (S' := [(1, pb b2), (3, .slice A5 y4.length cp6), (4, iv x16), (5, .bool true)]) ?_
    refine oD (qT (cQ (cQ (cR [0, 1, 2] ?_))))
    refine oP (r := []) [0, 1, 2] (S' := [(1, pb b2), (4, iv x16), (5, .bool true), (26, .slice A5 y4.length cp6), (27, iv (y4.length : Int)), (28, iv 0)]) ?_
    refine oD (qT ?_)
    obtain ⟨r1, h1, h0⟩ := bindS h0
    refine CodT.meet1 (fun a w => ∃ (x18 : Bool), x18 = r1 ∧ Fr 63 [(1, pb b2), (4, iv x16), (5, .bool x18)] a ∧ Inv w0 Z7 w (star (pt b2 (.cells (c_ApiEvent a0).toArray 50 (0, 0))) A)) ?_ ?_
    ·
     refine jB ?_
     refine (fun a ha => wp_loopN (fun k a w => ∃ (x19 : Bool) (x20 : Int), event_Valid.l0 y4 k x19 x20 = some r1 ∧ Fr 63 [(1, pb b2), (4, iv x16), (5, .bool x19), (26, .slice A5 y4.length cp6), (27, iv (y4.length : Int)), (28, iv x20)] a ∧ Inv w0 Z7 w (star (pt b2 (.cells (c_ApiEvent a0).toArray 50 (0, 0))) A)) ?_ FU a w ⟨true, 0, h1, ha.keep [1, 4, 5, 26, 27, 28] (by kernel_rfl), hI⟩)
     clear h1 hI
     rintro k a w ⟨x19, x20, h1, ha, hI⟩
     rcases k with _ | k
     ·
      cases h1
     simp only [event_Valid.l0] at h1
     refine CodT.of ?_ ha
     refine cQ (cR [0] ?_)
     refine oP (r := []) [0] (S' := [(1, pb b2), (4, iv x16), (5, .bool x19), (26, .slice A5 y4.length cp6), (27, iv (y4.length : Int)), (28, iv x20), (29, .bool (decide (x20 < (y4.length : Int))))]) ?_
     refine oD (qT (cQ ?_))
     by_cases hb21 : (decide (x20 < (y4.length : Int))) = true
     ·
      rw [if_pos hb21] at h1
      refine cY (b := decide (x20 < (y4.length : Int))) hb21 ?_
      refine jS (qT ?_)
      obtain ⟨r2, h2, h1⟩ := bindS h1
      refine jM (fun a w => ∃ (x22 : Bool), x22 = r2 ∧ Fr 63 [(1, pb b2), (4, iv x16), (5, .bool x22), (26, .slice A5 y4.length cp6), (27, iv (y4.length : Int)), (28, iv x20)] a ∧ Inv w0 Z7 w (star (pt b2 (.cells (c_ApiEvent a0).toArray 50 (0, 0))) A)) ?_ ?_
      ·
       refine jB (cQ (cR [0, 1, 2] ?_))
       obtain ⟨hg23, h2⟩ := guardS h2
       obtain ⟨g24, o28, hA25, hr26, hl27⟩ := RdS.get hr9 hg23.1 hg23.2
       refine oC (jY (Yl.indexSlice (d := 30) (T := 85) (cc := cp6) (k := .i64) (j := x20) (g := g24) (o := o28) (by kernel_rfl) Go.Proofs.Tryz.underlying85 ty88 hA25 hg23.1 hg23.2) hI ?_)
       refine oC (jY (jL (d := 31) (T := 88) (v := dynV88 (gt y4 x20)) (by kernel_rfl) (ldR ty88 (v := dynV88 (gt y4 x20)) 0 (fun w hC => hr26 w0 w _ hC) (by kernel_rfl))) hI ?_)
       refine oP (r := []) [2] (S' := [(1, pb b2), (4, iv x16), (5, .bool x19), (7, dynV88 (gt y4 x20)), (26, .slice A5 y4.length cp6), (27, iv (y4.length : Int)), (28, iv x20)]) ?_
       refine oD (qT (cQ (cR [0, 1, 2, 3, 4, 5, 6] ?_)))
       refine oP (r := [1, 2, 3, 4, 5, 6]) [0] (S' := [(1, pb b2), (4, iv x16), (5, .bool x19), (26, .slice A5 y4.length cp6), (27, iv (y4.length : Int)), (28, iv x20), (33, dynV88 (gt y4 x20))]) ?_
       rcases hd29 : gt y4 x20 with _ | z30 | z31 | z32
       ·
        simp only [hd29] at h2
        refine OpsT.keep [1, 4, 5, 26, 27, 28, 33] (S' := [(1, pb b2), (4, iv x16), (5, .bool x19), (26, .slice A5 y4.length cp6), (27, iv (y4.length : Int)), (28, iv x20), (33, .nilIface)]) (by (try simp only [hd29]); kernel_rfl) ?_
        refine oP (r := []) [1, 2, 3, 4, 5, 6] (S' := [(1, pb b2), (4, iv x16), (5, .bool x19), (8, .string q8e), (9, .bool false), (26, .slice A5 y4.length cp6), (27, iv (y4.length : Int)), (28, iv x20)]) ?_
        refine oD (qT (cQ (cR [0] ?_)))
        refine oP (r := []) [0] (S' := [(1, pb b2), (4, iv x16), (5, .bool x19), (8, .string q8e), (26, .slice A5 y4.length cp6), (27, iv (y4.length : Int)), (28, iv x20), (37, .bool false)]) ?_
        refine oD (qT ?_)
        refine CodT.no (by kernel_rfl) ?_
        refine jS (jN ?_)
        have e := someS h2
        subst e
        exact jT fun a ha => ⟨x19, rfl, ha.keep [1, 4, 5, 26, 27, 28] (by kernel_rfl), hI⟩
       ·
        simp only [hd29] at h2
        refine OpsT.keep [1, 4, 5, 26, 27, 28, 33] (S' := [(1, pb b2), (4, iv x16), (5, .bool x19), (26, .slice A5 y4.length cp6), (27, iv (y4.length : Int)), (28, iv x20), (33, .iface 108 (.string z30))]) (by (try simp only [hd29]); kernel_rfl) ?_
        refine oP (r := []) [1, 2, 3, 4, 5, 6] (S' := [(1, pb b2), (4, iv x16), (5, .bool x19), (8, .string z30), (9, .bool true), (26, .slice A5 y4.length cp6), (27, iv (y4.length : Int)), (28, iv x20)]) ?_
        refine oD (qT (cQ (cR [0] ?_)))
        refine oP (r := []) [0] (S' := [(1, pb b2), (4, iv x16), (5, .bool x19), (8, .string z30), (26, .slice A5 y4.length cp6), (27, iv (y4.length : Int)), (28, iv x20), (37, .bool true)]) ?_
        refine oD (qT ?_)
        refine CodT.yes (by kernel_rfl) ?_
        refine cR [0, 1, 2] ?_
        refine oP (r := [1, 2]) [0] (S' := [(1, pb b2), (4, iv x16), (26, .slice A5 y4.length cp6), (27, iv (y4.length : Int)), (28, iv x20), (38, .string z30)]) ?_
        obtain ⟨y34, hc33, h2⟩ := bindS h2
        try dsimp only at h2
        refine oC (jC (d := some 39) (n := 73) (vs := [.string z30]) (by kernel_rfl) en73 (c73 w0 w _ _ hI (hT.mono hle8) z30 _ hc33) ?_)
        rintro e w ⟨rfl, hI⟩
        refine ⟨_, rfl, ?_⟩
        refine oP (r := []) [2] (S' := [(1, pb b2), (4, iv x16), (5, .bool y34), (26, .slice A5 y4.length cp6), (27, iv (y4.length : Int)), (28, iv x20)]) ?_
        refine oD (jN ?_)
        have e := someS h2
        subst e
        exact jT fun a ha => ⟨y34, rfl, ha.keep [1, 4, 5, 26, 27, 28] (by kernel_rfl), hI⟩
       ·
        simp only [hd29] at h2
        refine OpsT.keep [1, 4, 5, 26, 27, 28, 33] (S' := [(1, pb b2), (4, iv x16), (5, .bool x19), (26, .slice A5 y4.length cp6), (27, iv (y4.length : Int)), (28, iv x20), (33, .iface 111 (iv z31))]) (by (try simp only [hd29]); kernel_rfl) ?_
        refine oP (r := []) [1, 2, 3, 4, 5, 6] (S' := [(1, pb b2), (4, iv x16), (5, .bool x19), (8, .string q8e), (9, .bool false), (26, .slice A5 y4.length cp6), (27, iv (y4.length : Int)), (28, iv x20)]) ?_
        refine oD (qT (cQ (cR [0] ?_)))
        refine oP (r := []) [0] (S' := [(1, pb b2), (4, iv x16), (5, .bool x19), (8, .string q8e), (26, .slice A5 y4.length cp6), (27, iv (y4.length : Int)), (28, iv x20), (37, .bool false)]) ?_
        refine oD (qT ?_)
        refine CodT.no (by kernel_rfl) ?_
        refine jS (jN ?_)
        have e := someS h2
        subst e
        exact jT fun a ha => ⟨x19, rfl, ha.keep [1, 4, 5, 26, 27, 28] (by kernel_rfl), hI⟩
       ·
        simp only [hd29] at h2
        obtain ⟨hg35, h2⟩ := guardS h2
        refine OpsT.keep [1, 4, 5, 26, 27, 28, 33] (S' := [(1, pb b2), (4, iv x16), (5, .bool x19), (26, .slice A5 y4.length cp6), (27, iv (y4.length : Int)), (28, iv x20), (33, .iface 112 (.agg (q8c z32).toArray))]) (by (try simp only [hd29]); kernel_rfl) ?_
        refine oP (r := []) [1, 2, 3, 4, 5, 6] (S' := [(1, pb b2), (4, iv x16), (5, .bool x19), (8, .string q8e), (9, .bool false), (26, .slice A5 y4.length cp6), (27, iv (y4.length : Int)), (28, iv x20)]) ?_
        refine oD (qT (cQ (cR [0] ?_)))
        refine oP (r := []) [0] (S' := [(1, pb b2), (4, iv x16), (5, .bool x19), (8, .string q8e), (26, .slice A5 y4.length cp6), (27, iv (y4.length : Int)), (28, iv x20), (37, .bool false)]) ?_
        refine oD (qT ?_)
        refine CodT.no (by kernel_rfl) ?_
        refine jS (jN ?_)
        have e := someS h2
        subst e
        exact jT fun a ha => ⟨x19, rfl, ha.keep [1, 4, 5, 26, 27, 28] (by kernel_rfl), hI⟩
      ·
       rintro a w ⟨x22, rfl, ha, hI⟩
       try dsimp only at h1
       refine CodT.of ?_ ha
       refine cR [0, 1] ?_
       refine oP (r := []) [0, 1] (S' := [(1, pb b2), (4, iv x16), (5, .bool x22), (26, .slice A5 y4.length cp6), (27, iv (y4.length : Int)), (28, iv (wi64 (x20 + 1)))]) ?_
       refine oD ?_
       exact jT fun a ha => ⟨k, Nat.lt_succ_self k, x22, wi64 (x20 + 1), h1, ha.keep [1, 4, 5, 26, 27, 28] (by kernel_rfl), hI⟩
     ·
      rw [if_neg hb21] at h1
      refine cN (b := decide (x20 < (y4.length : Int))) (by simpa using hb21) ?_
      refine jZ ?_
      refine jX (jX ?_)
      refine Qn.block ?_
      have e := someS h1
      subst e
      exact jT fun a ha => ⟨x19, rfl, ha.keep [1, 4, 5] (by kernel_rfl), hI⟩
    ·
     rintro a w ⟨x18, rfl, ha, hI⟩
     try dsimp only at h0
     refine Qn.of ?_ ha
     refine qT ?_
     obtain ⟨r1, h1, h0⟩ := bindS h0
     refine jM (fun a w => ∃ (x36 : Bool), x36 = r1 ∧ Fr 63 [(2, .bool x36)] a ∧ Inv w0 Z7 w A) ?_ ?_
     ·
      refine cR [0, 1, 2, 3, 4, 5, 6, 7, 8, 9, 10, 11, 12, 13, 14, 15, 16, 17, 18, 19, 20, 21, 22] ?_
      refine oP (r := [2, 3, 4, 5, 6, 7, 8, 9, 10, 11, 12, 13, 14, 15, 16, 17, 18, 19, 20, 21, 22]) [0, 1] (S' := [(1, pb b2), (4, iv x16), (42, .bool x18)]) ?_
      by_cases hb37 : x18 = true
      ·
       rw [if_pos hb37] at h1
       refine OpsT.keep [1, 4, 42] (S' := [(1, pb b2), (4, iv x16), (42, .bool true)]) (by (try simp only [hb37]); kernel_rfl) ?_
       refine oP (r := [3, 4, 5, 6, 7, 8, 9, 10, 11, 12, 13, 14, 15, 16, 17, 18, 19, 20, 21, 22]) [2] (S' := [(1, pb b2), (4, iv x16), (42, .bool true), (43, pb b2)]) ?_
       refine oC (jY (jL (d := 44) (T := 48) (v := iv a0.Kind) (by kernel_rfl) (ldB ty48 (l := c_ApiEvent a0) (o := 0) (v := iv a0.Kind) (ent_refl _) (by kernel_rfl))) hI ?_)
       refine oP (r := [6, 7, 8, 9, 10, 11, 12, 13, 14, 15, 16, 17, 18, 19, 20, 21, 22]) [4, 5] (S' := [(1, pb b2), (4, iv x16), (42, .bool true), (46, .bool (a0.Kind == 7))]) ?_
       by_cases hb38 : (a0.Kind == 7) = true
       ·
        rw [if_pos hb38] at h1
        refine OpsT.keep [1, 4, 42, 46] (S' := [(1, pb b2), (4, iv x16), (42, .bool true), (46, .bool true)]) (by (try simp only [hb38]); kernel_rfl) ?_
        refine oP (r := [13, 14, 15, 16, 17, 18, 19, 20, 21, 22]) [6, 7, 8, 9, 10, 11, 12] (S' := [(1, pb b2), (4, iv x16), (52, .bool true), (53, .pointer (some ⟨b2, 3, none⟩))]) ?_
        refine oC (jY (jL (d := 54) (T := 3) (v := iv a0.Time) (by kernel_rfl) (ldB ty3 (l := c_ApiEvent a0) (o := 3) (v := iv a0.Time) (ent_refl _) (by kernel_rfl))) hI ?_)
        obtain ⟨y40, hc39, h1⟩ := bindS h1
        try dsimp only at h1
        refine oC (jC (d := some 55) (n := 74) (vs := [iv a0.Time, iv 0, iv 1099511627776]) (by kernel_rfl) en74 (c74 w0 w _ _ hI (hT.mono hle8) a0.Time 0 1099511627776 _ hc39) ?_)
        rintro e w ⟨rfl, hI⟩
        refine ⟨_, rfl, ?_⟩
        refine oP (r := [17, 18, 19, 20, 21, 22]) [15, 16] (S' := [(1, pb b2), (4, iv x16), (57, .bool y40)]) ?_
        by_cases hb41 : y40 = true
        ·
         rw [if_pos hb41] at h1
         refine OpsT.keep [1, 4, 57] (S' := [(1, pb b2), (4, iv x16), (57, .bool true)]) (by (try simp only [hb41]); kernel_rfl) ?_
         refine oP (r := [18, 19, 20, 21, 22]) [17] (S' := [(4, iv x16), (57, .bool true), (58, .pointer (some ⟨b2, 4, none⟩))]) ?_
         refine oC (jY (jL (d := 59) (T := 3) (v := iv a0.Len) (by kernel_rfl) (ldB ty3 (l := c_ApiEvent a0) (o := 4) (v := iv a0.Len) (ent_refl _) (by kernel_rfl))) hI ?_)
         refine oP (r := [20, 21, 22]) [19] (S' := [(57, .bool true), (59, iv a0.Len), (60, iv x16)]) ?_
         obtain ⟨y43, hc42, h1⟩ := bindS h1
         try dsimp only at h1
         refine oC (jC (d := some 61) (n := 74) (vs := [iv a0.Len, iv x16, iv 600]) (by kernel_rfl) en74 (c74 w0 w _ _ hI (hT.mono hle8) a0.Len x16 600 _ hc42) ?_)
         rintro e w ⟨rfl, hI⟩
         refine ⟨_, rfl, ?_⟩
         refine oP (r := []) [21, 22] (S' := [(2, .bool y43)]) ?_
         refine oD ?_
         have hI := hI.drop
         have e := someS h1
         subst e
         exact jT fun a ha => ⟨y43, rfl, ha.keep [2] (by kernel_rfl), hI⟩
        ·
         rw [if_neg hb41] at h1
         have hb41 : y40 = false := by simpa using hb41
         refine OpsT.keep [1, 4, 57] (S' := [(1, pb b2), (4, iv x16), (57, .bool false)]) (by (try simp only [hb41]); kernel_rfl) ?_
         refine oP (r := []) [17, 18, 19, 20, 21, 22] (S' := [(2, .bool false)]) ?_
         refine oD ?_
         have hI := hI.drop
         have e := someS h1
         subst e
         exact jT fun a ha => ⟨false, rfl, ha.keep [2] (by kernel_rfl), hI⟩
       ·
        rw [if_neg hb38] at h1
        have hb38 : (a0.Kind == 7) = false := by simpa using hb38
        refine OpsT.keep [1, 4, 42, 46] (S' := [(1, pb b2), (4, iv x16), (42, .bool true), (46, .bool false)]) (by (try simp only [hb38]); kernel_rfl) ?_
        refine oP (r := [7, 8, 9, 10, 11, 12, 13, 14, 15, 16, 17, 18, 19, 20, 21, 22]) [6] (S' := [(1, pb b2), (4, iv x16), (42, .bool true), (46, .bool false), (47, .pointer (some ⟨b2, 1, none⟩))]) ?_
        refine oC (jY (jL (d := 48) (T := 3) (v := iv a0.ID) (by kernel_rfl) (ldB ty3 (l := c_ApiEvent a0) (o := 1) (v := iv a0.ID) (ent_refl _) (by kernel_rfl))) hI ?_)
        obtain ⟨y45, hc44, h1⟩ := bindS h1
        try dsimp only at h1
        refine oC (jC (d := some 49) (n := 74) (vs := [iv a0.ID, iv 1, iv 1099511627776]) (by kernel_rfl) en74 (c74 w0 w _ _ hI (hT.mono hle8) a0.ID 1 1099511627776 _ hc44) ?_)
        rintro e w ⟨rfl, hI⟩
        refine ⟨_, rfl, ?_⟩
        refine oP (r := [12, 13, 14, 15, 16, 17, 18, 19, 20, 21, 22]) [9, 10, 11] (S' := [(1, pb b2), (4, iv x16), (52, .bool y45)]) ?_
        by_cases hb46 : y45 = true
        ·
         rw [if_pos hb46] at h1
         refine OpsT.keep [1, 4, 52] (S' := [(1, pb b2), (4, iv x16), (52, .bool true)]) (by (try simp only [hb46]); kernel_rfl) ?_
         refine oP (r := [13, 14, 15, 16, 17, 18, 19, 20, 21, 22]) [12] (S' := [(1, pb b2), (4, iv x16), (52, .bool true), (53, .pointer (some ⟨b2, 3, none⟩))]) ?_
         refine oC (jY (jL (d := 54) (T := 3) (v := iv a0.Time) (by kernel_rfl) (ldB ty3 (l := c_ApiEvent a0) (o := 3) (v := iv a0.Time) (ent_refl _) (by kernel_rfl))) hI ?_)
         obtain ⟨y48, hc47, h1⟩ := bindS h1
         try dsimp only at h1
         refine oC (jC (d := some 55) (n := 74) (vs := [iv a0.Time, iv 0, iv 1099511627776]) (by kernel_rfl) en74 (c74 w0 w _ _ hI (hT.mono hle8) a0.Time 0 1099511627776 _ hc47) ?_)
         rintro e w ⟨rfl, hI⟩
         refine ⟨_, rfl, ?_⟩
         refine oP (r := [17, 18, 19, 20, 21, 22]) [15, 16] (S' := [(1, pb b2), (4, iv x16), (57, .bool y48)]) ?_
         by_cases hb49 : y48 = true
         ·
          rw [if_pos hb49] at h1
          refine OpsT.keep [1, 4, 57] (S' := [(1, pb b2), (4, iv x16), (57, .bool true)]) (by (try simp only [hb49]); kernel_rfl) ?_
          refine oP (r := [18, 19, 20, 21, 22]) [17] (S' := [(4, iv x16), (57, .bool true), (58, .pointer (some ⟨b2, 4, none⟩))]) ?_
          refine oC (jY (jL (d := 59) (T := 3) (v := iv a0.Len) (by kernel_rfl) (ldB ty3 (l := c_ApiEvent a0) (o := 4) (v := iv a0.Len) (ent_refl _) (by kernel_rfl))) hI ?_)
          refine oP (r := [20, 21, 22]) [19] (S' := [(57, .bool true), (59, iv a0.Len), (60, iv x16)]) ?_
          obtain ⟨y51, hc50, h1⟩ := bindS h1
          try dsimp only at h1
          refine oC (jC (d := some 61) (n := 74) (vs := [iv a0.Len, iv x16, iv 600]) (by kernel_rfl) en74 (c74 w0 w _ _ hI (hT.mono hle8) a0.Len x16 600 _ hc50) ?_)
          rintro e w ⟨rfl, hI⟩
          refine ⟨_, rfl, ?_⟩
          refine oP (r := []) [21, 22] (S' := [(2, .bool y51)]) ?_
          refine oD ?_
          have hI := hI.drop
          have e := someS h1
          subst e
          exact jT fun a ha => ⟨y51, rfl, ha.keep [2] (by kernel_rfl), hI⟩
         ·
          rw [if_neg hb49] at h1
          have hb49 : y48 = false := by simpa using hb49
          refine OpsT.keep [1, 4, 57] (S' := [(1, pb b2), (4, iv x16), (57, .bool false)]) (by (try simp only [hb49]); kernel_rfl) ?_
          refine oP (r := []) [17, 18, 19, 20, 21, 22] (S' := [(2, .bool false)]) ?_
          refine oD ?_
          have hI := hI.drop
          have e := someS h1
          subst e
          exact jT fun a ha => ⟨false, rfl, ha.keep [2] (by kernel_rfl), hI⟩
        ·
         rw [if_neg hb46] at h1
         have hb46 : y45 = false := by simpa using hb46
         refine OpsT.keep [1, 4, 52] (S' := [(1, pb b2), (4, iv x16), (52, .bool false)]) (by (try simp only [hb46]); kernel_rfl) ?_
         refine oP (r := []) [12, 13, 14, 15, 16, 17, 18, 19, 20, 21, 22] (S' := [(2, .bool false)]) ?_
         refine oD ?_
         have hI := hI.drop
         have e := someS h1
         subst e
         exact jT fun a ha => ⟨false, rfl, ha.keep [2] (by kernel_rfl), hI⟩
      ·
       rw [if_neg hb37] at h1
       have hb37 : x18 = false := by simpa using hb37
       refine OpsT.keep [1, 4, 42] (S' := [(1, pb b2), (4, iv x16), (42, .bool false)]) (by (try simp only [hb37]); kernel_rfl) ?_
       refine oP (r := []) [2, 3, 4, 5, 6, 7, 8, 9, 10, 11, 12, 13, 14, 15, 16, 17, 18, 19, 20, 21, 22] (S' := [(2, .bool false)]) ?_
       refine oD ?_
       have hI := hI.drop
       have e := someS h1
       subst e
       exact jT fun a ha => ⟨false, rfl, ha.keep [2] (by kernel_rfl), hI⟩
     ·
      rintro a w ⟨x36, rfl, ha, hI⟩
      try dsimp only at h0
      refine CodT.of ?_ ha
      refine jE ?_
      have e := someS h0
      subst e
      refine qK [2] (S' := [(2, .bool x36)]) ?_
      exact post_ret (v := .bool x36) (fun a ha => jU (vs := [.bool x36]) (.tmp (t := 2) (by kernel_rfl) .nil) ha (by kernel_rfl)) ⟨rfl, hI.weaken hle8⟩
/-- cenotaph/wire.Num -/
theorem c22 (w0 w : World) (Z : Hp) (A : HP) (hI : Inv w0 Z w A) (hT : Tabs Z) (a0 : Int) (r : ByteArray) (h0 : wire_Num a0 = some r) :
  Calls prog 22 #[iv a0] w (fun e w' => e = .returned (.string r) ∧ Inv w0 Z w' A) := by
 have e4 := calls_intro (R := (fun e w' => e = .returned (.string r) ∧ Inv w0 Z w' A)) (w := w) (args := [iv a0]) (fn := Go.Proofs.Tryz.f22) 23 Go.Proofs.Tryz.func22 (by rfl) Go.Proofs.Tryz.ntmps22 (by kernel_rfl)
 refine e4 ?_
 clear e4
 unfold wire_Num at h0
 refine cQ (cR [0] ?_)
 refine oP (r := []) [0] (S' := [(0, iv a0)]) ?_
 refine oD (qT (cQ (cR [0] ?_)))
 refine oP (r := []) [0] (S' := [(0, iv a0), (3, .slice none 0 0)]) ?_
 refine oD (qT (cQ (cQ (cR [0, 1, 2, 3] ?_))))
 refine oP (r := []) [0, 1, 2, 3] (S' := [(0, iv (if 1125899906842624 < (if 0 > a0 then 0 else a0) then 1125899906842624 else if 0 > a0 then 0 else a0)), (3, .slice none 0 0)]) ?_
 refine oD (qT ?_)
 obtain ⟨r1, h1, h0⟩ := bindS h0
 refine CodT.meet1 (fun a w => ∃ (x1 : Int) (x2 : (List Int)) (A3 : Option Addr) (cp4 : Nat), (x1, x2) = r1 ∧ Fr 23 [(0, iv x1), (3, .slice A3 x2.length cp4)] a ∧ Inv w0 Z w (star (ownS 5 (cI .u8) 1 A3 cp4 x2) A)) ?_ ?_
 ·
  refine jB ?_
  have hI := ownS_nil (α := Int) hI 5 (cI .u8) 1
  refine (fun a ha => wp_loopN (fun k a w => ∃ (x5 : Int) (x6 : (List Int)) (A7 : Option Addr) (cp8 : Nat), wire_Num.l0 k x5 x6 = some r1 ∧ Fr 23 [(0, iv x5), (3, .slice A7 x6.length cp8)] a ∧ Inv w0 Z w (star (ownS 5 (cI .u8) 1 A7 cp8 x6) A)) ?_ FU a w ⟨if 1125899906842624 < (if 0 > a0 then 0 else a0) then 1125899906842624 else if 0 > a0 then 0 else a0, ([] : List Int), none, 0, h1, ha.keep [0, 3] (by kernel_rfl), hI⟩)
  clear h1 hI
  rintro k a w ⟨x5, x6, A7, cp8, h1, ha, hI⟩
  rcases k with _ | k
  ·
   cases h1
  simp only [wire_Num.l0] at h1
  refine CodT.of ?_ ha
  refine cQ (cQ (cR [0, 1] ?_))
  refine oP (r := []) [0, 1] (S' := [(0, iv x5), (3, .slice A7 x6.length cp8), (8, .bool (decide (x5 ≥ 128)))]) ?_
  refine oD (qT ?_)
  by_cases hb9 : (decide (x5 ≥ 128)) = true
  ·
   rw [if_pos hb9] at h1
   refine cY (b := decide (x5 ≥ 128)) hb9 ?_
   refine jS (qT (cQ (jB (cR [0, 1, 2, 3, 4, 5, 6] ?_))))
   refine oP (r := [4, 5, 6]) [0, 1, 2, 3] (S' := [(0, iv x5), (11, .slice A7 x6.length cp8), (14, .int .u8 (bOr .u8 (wu8 x5) 128))]) ?_
   refine oC (Does.buildSlice (en := (cI .u8)) (d := 15) (n := 1) (T := 52) (ps := [(0, .int .u8 (bOr .u8 (wu8 x5) 128))]) ([bOr .u8 (wu8 x5) 128] : List Int) (by kernel_rfl) Go.Proofs.Tryz.underlying52 ty5 (by kernel_rfl) (by kernel_rfl) (by kernel_rfl) (by kernel_rfl) (len_all (fun _ => rfl)) hI ?_)
   intro b10 w hI
   obtain ⟨hg11, h1⟩ := guardS h1
   have hI := hI.mono (pick2 _ _ _)
   refine oC (Does.append (d := 16) (t := 52) (tx := 52) (ty := 52) (ys := x6) (zs := ([bOr .u8 (wu8 x5) 128] : List Int)) (x := .slice (some ⟨b10, 0, none⟩) (([bOr .u8 (wu8 x5) 128] : List Int).length) 1) (by kernel_rfl) Go.Proofs.Tryz.underlying52 ty5 (by kernel_rfl) hI (src_own Go.Proofs.Tryz.underlying52 (hI.mono (pick2 _ _ _)) (one_flat _ (fun _ => rfl))) (ownS_facts (hI.mono (pick2 _ _ _))).2.2 (by unfold LIM at hg11; omega) hg11 ?_)
   intro A12 cp13 w hI
   refine oP (r := []) [6] (S' := [(0, iv x5), (3, .slice A12 ((x6 ++ ([bOr .u8 (wu8 x5) 128] : List Int)).length) cp13)]) ?_
   refine oD (jN (qT (cR [0, 1, 2] ?_)))
   refine oP (r := []) [0, 1, 2] (S' := [(0, iv (bShr .i64 x5 7)), (3, .slice A12 ((x6 ++ ([bOr .u8 (wu8 x5) 128] : List Int)).length) cp13)]) ?_
   refine oD ?_
   have hI := hI.mono (pick2 _ _ _)
   have hI := hI.drop
   exact jT fun a ha => ⟨k, Nat.lt_succ_self k, bShr .i64 x5 7, x6 ++ ([bOr .u8 (wu8 x5) 128] : List Int), A12, cp13, h1, ha.keep [0, 3] (by kernel_rfl), hI⟩
  ·
   rw [if_neg hb9] at h1
   refine cN (b := decide (x5 ≥ 128)) (by simpa using hb9) ?_
   refine jZ ?_
   refine jX (jX ?_)
   refine Qn.block ?_
   have e := someS h1
   subst e
   exact jT fun a ha => ⟨x5, x6, A7, cp8, rfl, ha.keep [0, 3] (by kernel_rfl), hI⟩
 ·
  rintro a w ⟨x1, x2, A3, cp4, rfl, ha, hI⟩
  try dsimp only at h0
  refine Qn.of ?_ ha
  refine qT (cQ (cR [0, 1, 2, 3, 4, 5, 6] ?_))
  refine oP (r := [3, 4, 5, 6]) [0, 1, 2] (S' := [(17, .slice A3 x2.length cp4), (19, .int .u8 (wu8 x1))]) ?_
  refine oC (Does.buildSlice (en := (cI .u8)) (d := 20) (n := 1) (T := 52) (ps := [(0, .int .u8 (wu8 x1))]) ([wu8 x1] : List Int) (by kernel_rfl) Go.Proofs.Tryz.underlying52 ty5 (by kernel_rfl) (by kernel_rfl) (by kernel_rfl) (by kernel_rfl) (len_all (fun _ => rfl)) hI ?_)
  intro b14 w hI
  obtain ⟨hg15, h0⟩ := guardS h0
  have hI := hI.mono (pick2 _ _ _)
  refine oC (Does.append (d := 21) (t := 52) (tx := 52) (ty := 52) (ys := x2) (zs := ([wu8 x1] : List Int)) (x := .slice (some ⟨b14, 0, none⟩) (([wu8 x1] : List Int).length) 1) (by kernel_rfl) Go.Proofs.Tryz.underlying52 ty5 (by kernel_rfl) hI (src_own Go.Proofs.Tryz.underlying52 (hI.mono (pick2 _ _ _)) (one_flat _ (fun _ => rfl))) (ownS_facts (hI.mono (pick2 _ _ _))).2.2 (by unfold LIM at hg15; omega) hg15 ?_)
  intro A16 cp17 w hI
  refine oC (Does.b2sOwn (d := 22) (src := 52) (dst := 9) (xs := x2 ++ ([wu8 x1] : List Int)) (by kernel_rfl) Go.Proofs.Tryz.underlying52 Go.Proofs.Tryz.underlying5 Go.Proofs.Tryz.underlying9 hI ?_)
  refine oP (r := []) [6] (S' := [(2, .string (strOfNums (x2 ++ ([wu8 x1] : List Int))))]) ?_
  refine oD (qT (jE ?_))
  have hI := hI.drop
  have hI := hI.drop
  have e := someS h0
  subst e
  refine qK [2] (S' := [(2, .string (strOfNums (x2 ++ ([wu8 x1] : List Int))))]) ?_
  exact post_ret (v := .string (strOfNums (x2 ++ ([wu8 x1] : List Int)))) (fun a ha => jU (vs := [.string (strOfNums (x2 ++ ([wu8 x1] : List Int)))]) (.tmp (t := 2) (by kernel_rfl) .nil) ha (by kernel_rfl)) ⟨rfl, hI⟩
/-- cenotaph/wire.Text -/
theorem c25 (w0 w : World) (Z : Hp) (A : HP) (hI : Inv w0 Z w A) (hT : Tabs Z) (a0 : ByteArray) (r : ByteArray) (h0 : wire_Text a0 = some r) :
  Calls prog 25 #[.string a0] w (fun e w' => e = .returned (.string r) ∧ Inv w0 Z w' A) := by
 have e4 := calls_intro (R := (fun e w' => e = .returned (.string r) ∧ Inv w0 Z w' A)) (w := w) (args := [.string a0]) (fn := Go.Proofs.Tryz.f25) 8 Go.Proofs.Tryz.func25 (by rfl) Go.Proofs.Tryz.ntmps25 (by kernel_rfl)
 refine e4 ?_
 clear e4
 unfold wire_Text at h0
 refine cQ (cR [0] ?_)
 refine oP (r := []) [0] (S' := [(0, .string a0)]) ?_
 refine oD (qT (cQ (cR [0, 1, 2, 3, 4, 5] ?_)))
 refine oP (r := [2, 3, 4, 5]) [0, 1] (S' := [(0, .string a0), (4, iv (a0.size : Int))]) ?_
 obtain ⟨y2, hc1, h0⟩ := bindS h0
 try dsimp only at h0
 refine oC (jC (d := some 5) (n := 22) (vs := [iv (a0.size : Int)]) (by kernel_rfl) en22 (c22 w0 w _ _ hI hT (a0.size : Int) _ hc1) ?_)
 rintro e w ⟨rfl, hI⟩
 refine ⟨_, rfl, ?_⟩
 refine oP (r := [4, 5]) [3] (S' := [(5, .string y2), (6, .string a0)]) ?_
 obtain ⟨hg3, h0⟩ := guardS h0
 refine oC (jY (Yl.cat (d := 7) (T := 9) (x := y2) (y := a0) (by kernel_rfl) hg3) hI ?_)
 refine oP (r := []) [5] (S' := [(2, .string (y2 ++ a0))]) ?_
 refine oD (qT (jE ?_))
 have e := someS h0
 subst e
 refine qK [2] (S' := [(2, .string (y2 ++ a0))]) ?_
 exact post_ret (v := .string (y2 ++ a0)) (fun a ha => jU (vs := [.string (y2 ++ a0)]) (.tmp (t := 2) (by kernel_rfl) .nil) ha (by kernel_rfl)) ⟨rfl, hI⟩
/-- (cenotaph/event.text).put -/
theorem c135 (w0 w : World) (Z : Hp) (A : HP) (hI : Inv w0 Z w A) (hT : Tabs Z) (a0 : ByteArray) (r : ByteArray) (h0 : event_text_put a0 = some r) :
  Calls prog 135 #[.string a0] w (fun e w' => e = .returned (.string r) ∧ Inv w0 Z w' A) := by
 have e4 := calls_intro (R := (fun e w' => e = .returned (.string r) ∧ Inv w0 Z w' A)) (w := w) (args := [.string a0]) (fn := Go.Proofs.Tryz.f135) 5 Go.Proofs.Tryz.func135 (by rfl) Go.Proofs.Tryz.ntmps135 (by kernel_rfl)
 refine e4 ?_
 clear e4
 unfold event_text_put at h0
 refine cQ (cR [0] ?_)
 refine oP (r := []) [0] (S' := [(0, .string a0)]) ?_
 refine oD (qT (cQ (cR [0, 1, 2] ?_)))
 refine oP (r := [1, 2]) [0] (S' := [(3, .string a0)]) ?_
 obtain ⟨y2, hc1, h0⟩ := bindS h0
 try dsimp only at h0
 refine oC (jC (d := some 4) (n := 25) (vs := [.string a0]) (by kernel_rfl) en25 (c25 w0 w _ _ hI hT a0 _ hc1) ?_)
 rintro e w ⟨rfl, hI⟩
 refine ⟨_, rfl, ?_⟩
 refine oP (r := []) [2] (S' := [(2, .string y2)]) ?_
 refine oD (qT (jE ?_))
 have e := someS h0
 subst e
 refine qK [2] (S' := [(2, .string y2)]) ?_
 exact post_ret (v := .string y2) (fun a ha => jU (vs := [.string y2]) (.tmp (t := 2) (by kernel_rfl) .nil) ha (by kernel_rfl)) ⟨rfl, hI⟩
/-- (cenotaph/event.number).put -/
theorem c146 (w0 w : World) (Z : Hp) (A : HP) (hI : Inv w0 Z w A) (hT : Tabs Z) (a0 : Int) (r : ByteArray) (h0 : event_number_put a0 = some r) :
  Calls prog 146 #[iv a0] w (fun e w' => e = .returned (.string r) ∧ Inv w0 Z w' A) := by
 have e4 := calls_intro (R := (fun e w' => e = .returned (.string r) ∧ Inv w0 Z w' A)) (w := w) (args := [iv a0]) (fn := Go.Proofs.Tryz.f146) 5 Go.Proofs.Tryz.func146 (by rfl) Go.Proofs.Tryz.ntmps146 (by kernel_rfl)
 refine e4 ?_
 clear e4
 unfold event_number_put at h0
 refine cQ (cR [0] ?_)
 refine oP (r := []) [0] (S' := [(0, iv a0)]) ?_
 refine oD (qT (cQ (cR [0, 1, 2] ?_)))
 refine oP (r := [1, 2]) [0] (S' := [(3, iv a0)]) ?_
 obtain ⟨y2, hc1, h0⟩ := bindS h0
 try dsimp only at h0
 refine oC (jC (d := some 4) (n := 22) (vs := [iv a0]) (by kernel_rfl) en22 (c22 w0 w _ _ hI hT a0 _ hc1) ?_)
 rintro e w ⟨rfl, hI⟩
 refine ⟨_, rfl, ?_⟩
 refine oP (r := []) [2] (S' := [(2, .string y2)]) ?_
 refine oD (qT (jE ?_))
 have e := someS h0
 subst e
 refine qK [2] (S' := [(2, .string y2)]) ?_
 exact post_ret (v := .string y2) (fun a ha => jU (vs := [.string y2]) (.tmp (t := 2) (by kernel_rfl) .nil) ha (by kernel_rfl)) ⟨rfl, hI⟩
/-- cenotaph/wire.Sum -/
theorem c23 (w0 w : World) (Z : Hp) (A : HP) (hI : Inv w0 Z w A) (hT : Tabs Z) (a0 : (List Int)) (hl_a0 : a0.length = 32) (r : ByteArray) (h0 : wire_Sum a0 = some r) :
  Calls prog 23 #[.agg (q8c a0).toArray] w (fun e w' => e = .returned (.string r) ∧ Inv w0 Z w' A) := by
 have e4 := calls_intro (R := (fun e w' => e = .returned (.string r) ∧ Inv w0 Z w' A)) (w := w) (args := [.agg (q8c a0).toArray]) (fn := Go.Proofs.Tryz.f23) 5 Go.Proofs.Tryz.func23 (by rfl) Go.Proofs.Tryz.ntmps23 (by kernel_rfl)
 refine e4 ?_
 clear e4
 unfold wire_Sum at h0
 refine cQ (cR [0, 1] ?_)
 refine oC (Does.boxL (d := 1) (T := 23) (v := .agg (q8c a0).toArray) (q8c a0) (by kernel_rfl) hI (by kernel_rfl) ?_)
 intro b1 w hI
 refine oP (r := []) [1] (S' := [(1, pb b1)]) ?_
 refine oD (qT (cQ (cR [0, 1, 2] ?_)))
 refine oP (r := [1, 2]) [0] (S' := [(3, .slice (some ⟨b1, 0, none⟩) 32 32)]) ?_
 refine oC (jY (Yl.b2sV (d := 4) (src := 52) (dst := 9) (g := b1) (o := 0) (c := 32) (n := 32) (xs := a0) (by kernel_rfl) Go.Proofs.Tryz.underlying52 Go.Proofs.Tryz.underlying5 Go.Proofs.Tryz.underlying9 hl_a0 (fun w hC => range_at (hC.mono (ent_refl _)).block (fun j v hv => by simpa using hv))) hI ?_)
 refine oP (r := []) [2] (S' := [(2, .string (strOfNums a0))]) ?_
 refine oD (qT (jE ?_))
 have hI := hI.drop
 have e := someS h0
 subst e
 refine qK [2] (S' := [(2, .string (strOfNums a0))]) ?_
 exact post_ret (v := .string (strOfNums a0)) (fun a ha => jU (vs := [.string (strOfNums a0)]) (.tmp (t := 2) (by kernel_rfl) .nil) ha (by kernel_rfl)) ⟨rfl, hI⟩
/-- (cenotaph/event.sum).put -/
theorem c148 (w0 w : World) (Z : Hp) (A : HP) (hI : Inv w0 Z w A) (hT : Tabs Z) (a0 : (List Int)) (hl_a0 : a0.length = 32) (r : ByteArray) (h0 : event_sum_put a0 = some r) :
  Calls prog 148 #[.agg (q8c a0).toArray] w (fun e w' => e = .returned (.string r) ∧ Inv w0 Z w' A) := by
 have e4 := calls_intro (R := (fun e w' => e = .returned (.string r) ∧ Inv w0 Z w' A)) (w := w) (args := [.agg (q8c a0).toArray]) (fn := Go.Proofs.Tryz.f148) 5 Go.Proofs.Tryz.func148 (by rfl) Go.Proofs.Tryz.ntmps148 (by kernel_rfl)
 refine e4 ?_
 clear e4
 unfold event_sum_put at h0
 refine cQ (cR [0, 1] ?_)
 refine oC (Does.boxL (d := 1) (T := 112) (v := .agg (q8c a0).toArray) (q8c a0) (by kernel_rfl) hI (by kernel_rfl) ?_)
 intro b1 w hI
 refine oP (r := []) [1] (S' := [(1, pb b1)]) ?_
 refine oD (qT (cQ (cR [0, 1, 2] ?_)))
 refine oC (jY (jL (d := 3) (T := 112) (v := .agg (q8c a0).toArray) (by kernel_rfl) (ldBN ty112 (l := cA (Value.int .u8) a0) (o := 0) (cs := cA (Value.int .u8) a0) (ent_refl _) ((cA_length _ _).trans hl_a0) (whole _ _ ((cA_length _ _).trans hl_a0)))) hI ?_)
 obtain ⟨y3, hc2, h0⟩ := bindS h0
 try dsimp only at h0
 refine oC (jC (d := some 4) (n := 23) (vs := [.agg (q8c a0).toArray]) (by kernel_rfl) en23 (c23 w0 w _ _ hI hT a0 hl_a0 _ hc2) ?_)
 rintro e w ⟨rfl, hI⟩
 refine ⟨_, rfl, ?_⟩
 refine oP (r := []) [2] (S' := [(2, .string y3)]) ?_
 refine oD (qT (jE ?_))
 have hI := hI.drop
 have e := someS h0
 subst e
 refine qK [2] (S' := [(2, .string y3)]) ?_
 exact post_ret (v := .string y3) (fun a ha => jU (vs := [.string y3]) (.tmp (t := 2) (by kernel_rfl) .nil) ha (by kernel_rfl)) ⟨rfl, hI⟩
/-- cenotaph/event.Put -/
theorem c24 (w0 w : World) (Z : Hp) (A : HP) (hI : Inv w0 Z w A) (hT : Tabs Z) (a0 : ApiEvent) (hl1 : a0.Sum.length = 32) (r : (ByteArray × Bool)) (h0 : event_Put a0 = some r) :
  Calls prog 24 #[.agg (c_ApiEvent a0).toArray] w (fun e w' => e = .returned (.tuple #[.string r.1, .bool r.2]) ∧ Inv w0 Z w' A) := by
 have e4 := calls_intro (R := (fun e w' => e = .returned (.tuple #[.string r.1, .bool r.2]) ∧ Inv w0 Z w' A)) (w := w) (args := [.agg (c_ApiEvent a0).toArray]) (fn := Go.Proofs.Tryz.f24) 26 Go.Proofs.Tryz.func24 (by rfl) Go.Proofs.Tryz.ntmps24 (by kernel_rfl)
 refine e4 ?_
 clear e4
 unfold event_Put at h0
 refine cQ (cR [0, 1, 2] ?_)
 refine oC (Does.boxL (d := 1) (T := 50) (v := .agg (c_ApiEvent a0).toArray) (c_ApiEvent a0) (by kernel_rfl) hI (by kernel_rfl) ?_)
 intro b2 w hI
 refine oP (r := []) [1, 2] (S' := [(1, pb b2)]) ?_
 refine oD (qT (cQ (cQ (cR [0, 1, 2] ?_))))
 refine oC (jY (jL (d := 7) (T := 50) (v := .agg (c_ApiEvent a0).toArray) (by kernel_rfl) (ldBN ty50 (l := c_ApiEvent a0) (o := 0) (cs := c_ApiEvent a0) (ent_refl _) (len_ApiEvent _ hl1) (whole _ _ (len_ApiEvent _ hl1)))) hI ?_)
 obtain ⟨y4, hc3, h0⟩ := bindS h0
 try dsimp only at h0
 refine oC (jC (d := some 8) (n := 51) (vs := [.agg (c_ApiEvent a0).toArray]) (by kernel_rfl) en51 (c51 w0 w _ _ hI hT a0 hl1 _ hc3) ?_)
 rintro e w ⟨rfl, hI⟩
 refine ⟨_, rfl, ?_⟩
 refine oP (r := []) [2] (S' := [(1, pb b2), (9, .bool (!y4))]) ?_
 refine oD (qT ?_)
 by_cases hb5 : (!y4) = true
 ·
  rw [if_pos hb5] at h0
  refine cY (b := !y4) hb5 ?_
  refine cQ (cR [0, 1] ?_)
  refine oP (r := []) [0, 1] (S' := [(2, .string q8e), (3, .bool false)]) ?_
  refine oD (qT (jE (jR ?_)))
  have hI := hI.drop
  have e := someS h0
  subst e
  refine qK [2, 3] (S' := [(2, .string q8e), (3, .bool false)]) ?_
  exact post_ret (v := .tuple #[.string q8e, .bool false]) (fun a ha => jU (vs := [.string q8e, .bool false]) (.tmp (t := 2) (by kernel_rfl) (.tmp (t := 3) (by kernel_rfl) .nil)) ha (by kernel_rfl)) ⟨rfl, hI⟩
 ·
  rw [if_neg hb5] at h0
  refine cN (b := !y4) (by simpa using hb5) ?_
  refine jS (qT (cQ (cR [0, 1, 2, 3] ?_)))
  refine oP (r := [1, 2, 3]) [0] (S' := [(1, pb b2), (10, pb b2)]) ?_
  refine oC (jY (jL (d := 11) (T := 48) (v := iv a0.Kind) (by kernel_rfl) (ldB ty48 (l := c_ApiEvent a0) (o := 0) (v := iv a0.Kind) (ent_refl _) (by kernel_rfl))) hI ?_)
  obtain ⟨y7, hc6, h0⟩ := bindS h0
  try dsimp only at h0
  refine oC (jC (d := some 12) (n := 22) (vs := [iv a0.Kind]) (by kernel_rfl) en22 (c22 w0 w _ _ hI hT a0.Kind _ hc6) ?_)
  rintro e w ⟨rfl, hI⟩
  refine ⟨_, rfl, ?_⟩
  refine oP (r := []) [3] (S' := [(1, pb b2), (4, .string y7)]) ?_
  refine oD (qT (cQ (cQ (cR [0, 1, 2, 3] ?_))))
  refine oC (jY (jL (d := 13) (T := 50) (v := .agg (c_ApiEvent a0).toArray) (by kernel_rfl) (ldBN ty50 (l := c_ApiEvent a0) (o := 0) (cs := c_ApiEvent a0) (ent_refl _) (len_ApiEvent _ hl1) (whole _ _ (len_ApiEvent _ hl1)))) hI ?_)
  obtain ⟨y9, hc8, h0⟩ := bindS h0
  try dsimp only at h0
  refine oC (jC (d := some 14) (n := 52) (vs := [.agg (c_ApiEvent a0).toArray]) (by kernel_rfl) en52 (c52 w0 w _ _ hI hT a0 hl1 _ hc8) ?_)
  rintro e w ⟨A10, cp11, rfl, hI⟩
  refine ⟨_, rfl, ?_⟩
  refine oP (r := []) [2, 3] (S' := [(4, .string y7), (14, .slice A10 y9.length cp11), (15, iv (y9.length : Int)), (16, iv 0)]) ?_
  refine oD (qT ?_)
  obtain ⟨r1, h1, h0⟩ := bindS h0
  refine CodT.meet1 (fun a w => ∃ (x12 : ByteArray), x12 = r1 ∧ Fr 26 [(4, .string x12)] a ∧ Inv w0 Z w A) ?_ ?_
  ·
   refine jB ?_
   have hI := hI.mono (pick2 _ _ _)
   have hI := hI.drop
   refine (fun a ha => wp_loopN (fun k a w => ∃ (x13 : ByteArray) (x14 : Int), event_Put.l0 y9 k x13 x14 = some r1 ∧ Fr 26 [(4, .string x13), (14, .slice A10 y9.length cp11), (15, iv (y9.length : Int)), (16, iv x14)] a ∧ Inv w0 Z w (star (ownS 88 cD88 1 A10 cp11 y9) A)) ?_ FU a w ⟨y7, 0, h1, ha.keep [4, 14, 15, 16] (by kernel_rfl), hI⟩)
   clear h1 hI
   rintro k a w ⟨x13, x14, h1, ha, hI⟩
   rcases k with _ | k
   ·
    cases h1
   simp only [event_Put.l0] at h1
   refine CodT.of ?_ ha
   refine cQ (cR [0] ?_)
   refine oP (r := []) [0] (S' := [(4, .string x13), (14, .slice A10 y9.length cp11), (15, iv (y9.length : Int)), (16, iv x14), (17, .bool (decide (x14 < (y9.length : Int))))]) ?_
   refine oD (qT (cQ ?_))
   by_cases hb15 : (decide (x14 < (y9.length : Int))) = true
   ·
    rw [if_pos hb15] at h1
    refine cY (b := decide (x14 < (y9.length : Int))) hb15 ?_
    refine jS (qT ?_)
    obtain ⟨r2, h2, h1⟩ := bindS h1
    refine jM (fun a w => ∃ (x16 : ByteArray), x16 = r2 ∧ Fr 26 [(4, .string x16), (14, .slice A10 y9.length cp11), (15, iv (y9.length : Int)), (16, iv x14)] a ∧ Inv w0 Z w (star (ownS 88 cD88 1 A10 cp11 y9) A)) ?_ ?_
    ·
     refine jB (cQ (cR [0, 1, 2] ?_))
     obtain ⟨hg17, h2⟩ := guardS h2
     obtain ⟨g18, hA19, hr20, hl21⟩ := ownS_get hI hg17.1 hg17.2
     refine oC (jY (Yl.indexSlice (d := 18) (T := 85) (cc := cp11) (k := .i64) (j := x14) (g := g18) (o := 0) (by kernel_rfl) Go.Proofs.Tryz.underlying85 ty88 hA19 hg17.1 hg17.2) hI ?_)
     refine oC (jY (jL (d := 19) (T := 88) (v := dynV88 (gt y9 x14)) (by kernel_rfl) (ldR ty88 (v := dynV88 (gt y9 x14)) 0 (fun w hC => hr20 w0 w _ hC) (by kernel_rfl))) hI ?_)
     refine oP (r := []) [2] (S' := [(4, .string x13), (6, dynV88 (gt y9 x14)), (14, .slice A10 y9.length cp11), (15, iv (y9.length : Int)), (16, iv x14)]) ?_
     refine oD (qT (cR [0, 1, 2, 3, 4] ?_))
     refine oP (r := [2, 3, 4]) [0, 1] (S' := [(14, .slice A10 y9.length cp11), (15, iv (y9.length : Int)), (16, iv x14), (20, .string x13), (21, dynV88 (gt y9 x14))]) ?_
     rcases hd22 : gt y9 x14 with _ | z23 | z24 | z25
     ·
      simp only [hd22] at h2
      all_goals cases h2
     ·
      simp only [hd22] at h2
      refine OpsT.keep [14, 15, 16, 20, 21] (S' := [(14, .slice A10 y9.length cp11), (15, iv (y9.length : Int)), (16, iv x14), (20, .string x13), (21, .iface 108 (.string z23))]) (by (try simp only [hd22]); kernel_rfl) ?_
      obtain ⟨y27, hc26, h2⟩ := bindS h2
      try dsimp only at h2
      refine oC (Does.invoke (nm := "cenotaph/event.put") (u := .iface 108 (.string z23)) (d := some 22) (n := 135) (vs := []) (by kernel_rfl) [.string z23] (fun _ => by kernel_rfl) (c135 w0 w _ _ hI hT z23 _ hc26) ?_)
      rintro e w ⟨rfl, hI⟩
      refine ⟨_, rfl, ?_⟩
      obtain ⟨hg28, h2⟩ := guardS h2
      refine oC (jY (Yl.cat (d := 23) (T := 9) (x := x13) (y := y27) (by kernel_rfl) hg28) hI ?_)
      refine oP (r := []) [4] (S' := [(4, .string (x13 ++ y27)), (14, .slice A10 y9.length cp11), (15, iv (y9.length : Int)), (16, iv x14)]) ?_
      refine oD (jN ?_)
      have e := someS h2
      subst e
      exact jT fun a ha => ⟨x13 ++ y27, rfl, ha.keep [4, 14, 15, 16] (by kernel_rfl), hI⟩
     ·
      simp only [hd22] at h2
      refine OpsT.keep [14, 15, 16, 20, 21] (S' := [(14, .slice A10 y9.length cp11), (15, iv (y9.length : Int)), (16, iv x14), (20, .string x13), (21, .iface 111 (iv z24))]) (by (try simp only [hd22]); kernel_rfl) ?_
      obtain ⟨y30, hc29, h2⟩ := bindS h2
      try dsimp only at h2
      refine oC (Does.invoke (nm := "cenotaph/event.put") (u := .iface 111 (iv z24)) (d := some 22) (n := 146) (vs := []) (by kernel_rfl) [iv z24] (fun _ => by kernel_rfl) (c146 w0 w _ _ hI hT z24 _ hc29) ?_)
      rintro e w ⟨rfl, hI⟩
      refine ⟨_, rfl, ?_⟩
      obtain ⟨hg31, h2⟩ := guardS h2
      refine oC (jY (Yl.cat (d := 23) (T := 9) (x := x13) (y := y30) (by kernel_rfl) hg31) hI ?_)
      refine oP (r := []) [4] (S' := [(4, .string (x13 ++ y30)), (14, .slice A10 y9.length cp11), (15, iv (y9.length : Int)), (16, iv x14)]) ?_
      refine oD (jN ?_)
      have e := someS h2
      subst e
      exact jT fun a ha => ⟨x13 ++ y30, rfl, ha.keep [4, 14, 15, 16] (by kernel_rfl), hI⟩
     ·
      simp only [hd22] at h2
      obtain ⟨hg32, h2⟩ := guardS h2
      refine OpsT.keep [14, 15, 16, 20, 21] (S' := [(14, .slice A10 y9.length cp11), (15, iv (y9.length : Int)), (16, iv x14), (20, .string x13), (21, .iface 112 (.agg (q8c z25).toArray))]) (by (try simp only [hd22]); kernel_rfl) ?_
      obtain ⟨y34, hc33, h2⟩ := bindS h2
      try dsimp only at h2
      refine oC (Does.invoke (nm := "cenotaph/event.put") (u := .iface 112 (.agg (q8c z25).toArray)) (d := some 22) (n := 148) (vs := []) (by kernel_rfl) [.agg (q8c z25).toArray] (fun _ => by kernel_rfl) (c148 w0 w _ _ hI hT z25 hg32 _ hc33) ?_)
      rintro e w ⟨rfl, hI⟩
      refine ⟨_, rfl, ?_⟩
      obtain ⟨hg35, h2⟩ := guardS h2
      refine oC (jY (Yl.cat (d := 23) (T := 9) (x := x13) (y := y34) (by kernel_rfl) hg35) hI ?_)
      refine oP (r := []) [4] (S' := [(4, .string (x13 ++ y34)), (14, .slice A10 y9.length cp11), (15, iv (y9.length : Int)), (16, iv x14)]) ?_
      refine oD (jN ?_)
      have e := someS h2
      subst e
      exact jT fun a ha => ⟨x13 ++ y34, rfl, ha.keep [4, 14, 15, 16] (by kernel_rfl), hI⟩
    ·
     rintro a w ⟨x16, rfl, ha, hI⟩
     try dsimp only at h1
     refine CodT.of ?_ ha
     refine cR [0, 1] ?_
     refine oP (r := []) [0, 1] (S' := [(4, .string x16), (14, .slice A10 y9.length cp11), (15, iv (y9.length : Int)), (16, iv (wi64 (x14 + 1)))]) ?_
     refine oD ?_
     exact jT fun a ha => ⟨k, Nat.lt_succ_self k, x16, wi64 (x14 + 1), h1, ha.keep [4, 14, 15, 16] (by kernel_rfl), hI⟩
   ·
    rw [if_neg hb15] at h1
    refine cN (b := decide (x14 < (y9.length : Int))) (by simpa using hb15) ?_
    refine jZ ?_
    refine jX (jX ?_)
    refine Qn.block ?_
    have hI := hI.drop
    have e := someS h1
    subst e
    exact jT fun a ha => ⟨x13, rfl, ha.keep [4] (by kernel_rfl), hI⟩
  ·
   rintro a w ⟨x12, rfl, ha, hI⟩
   try dsimp only at h0
   refine Qn.of ?_ ha
   refine qT (cQ (cR [0, 1, 2] ?_))
   refine oP (r := []) [0, 1, 2] (S' := [(2, .string x12), (3, .bool true)]) ?_
   refine oD (qT (jE ?_))
   have e := someS h0
   subst e
   refine qK [2, 3] (S' := [(2, .string x12), (3, .bool true)]) ?_
   exact post_ret (v := .tuple #[.string x12, .bool true]) (fun a ha => jU (vs := [.string x12, .bool true]) (.tmp (t := 2) (by kernel_rfl) (.tmp (t := 3) (by kernel_rfl) .nil)) ha (by kernel_rfl)) ⟨rfl, hI⟩
/-- cenotaph/chain.each$1 -/
theorem c101 (w0 w : World) (Z : Hp) (A : HP)  (hT : Tabs Z) (l_a0 : Nat) {σ : Type} (J_a0 : σ → HP) (Y_a0 : σ → ByteArray → (List Int) → Option σ) (s_a0 : σ) (hy_a0 : ∀ (w : World) (Z' : Hp) (R : HP) (s : σ) (x0 : ByteArray) (x1 : (List Int)) (r : σ), x1.length = 32 → Z.le Z' → Y_a0 s x0 x1 = some r → Inv w0 Z' w (star (J_a0 s) R) → YAt prog l_a0 [.string x0, .agg (q8c x1).toArray] w (fun e w' => e = .returned (.bool true) ∧ Inv w0 Z' w' (star (J_a0 r) R))) (b_a1 : Nat) (ube : ByteArray) (b_a2 : Nat) (ud : Option Addr) (ucb : Nat) (ubf : (List ApiEvent)) (ucf : RdS Z c_ApiEvent 37 ud ucb ubf) (hz_a2 : Z b_a2 = some (.cells ([.slice ud ubf.length ucb] : LV).toArray 24 (0, 0))) (b_a3 : Nat) (ubh : Nat) (ubg : Bool) (hz_a3 : Z b_a3 = some (.cells ([pb ubh] : LV).toArray 131 (0, 0))) (hI : Inv w0 Z w (star (J_a0 s_a0) (star (pt b_a1 (.cells ([.string ube] : LV).toArray 9 (0, 0))) (star (pt ubh (.cells ([.bool ubg] : LV).toArray 4 (0, 0))) A)))) (r : (σ × ByteArray × Bool)) (h0 : chain_each_1 Y_a0 s_a0 ube ubf ubg = some r) :
  Calls prog 101 #[.func (.yield l_a0) #[] #[], pb b_a1, pb b_a2, pb b_a3] w (fun e w' => e = .returned (.tuple #[]) ∧ Inv w0 Z w' (star (J_a0 r.1) (star (pt b_a1 (.cells ([.string r.2.1] : LV).toArray 9 (0, 0))) (star (pt ubh (.cells ([.bool r.2.2] : LV).toArray 4 (0, 0))) A)))) := by
 have e4 := calls_intro (R := (fun e w' => e = .returned (.tuple #[]) ∧ Inv w0 Z w' (star (J_a0 r.1) (star (pt b_a1 (.cells ([.string r.2.1] : LV).toArray 9 (0, 0))) (star (pt ubh (.cells ([.bool r.2.2] : LV).toArray 4 (0, 0))) A))))) (w := w) (args := [.func (.yield l_a0) #[] #[], pb b_a1, pb b_a2, pb b_a3]) (fn := Go.Proofs.Tryz.f101) 43 Go.Proofs.Tryz.func101 (by rfl) Go.Proofs.Tryz.ntmps101 (by kernel_rfl)
 refine e4 ?_
 clear e4
 unfold chain_each_1 at h0
 refine cQ (cR [0, 1, 2, 3] ?_)
 refine oC (jY (jL (d := 8) (T := 9) (v := .string ube) (by kernel_rfl) (ldB ty9 (l := ([.string ube] : LV)) (o := 0) (v := .string ube) (pick2 _ _ _) (by kernel_rfl))) hI ?_)
 obtain ⟨y2, hc1, h0⟩ := bindS h0
 try dsimp only at h0
 refine oC (jC (d := some 9) (n := 49) (vs := [.string ube]) (by kernel_rfl) en49 (c49 w0 w _ _ hI hT ube _ hc1) ?_)
 rintro e w ⟨rfl, hl3, hI⟩
 refine ⟨_, rfl, ?_⟩
 refine oC (jA (d := 5) (T := 23) (q8c q8z) (by kernel_rfl) ty23 hI (by kernel_rfl) ?_)
 intro b4 w hI
 refine oC (jV (T := 23) (b := b4) (n := 32) (xs := q8z) (ys := y2) (by kernel_rfl) ty23 hI (fun _ => rfl) (by kernel_rfl) hl3 ?_)
 intro w hI
 refine oD (qT (cQ (cR [0] ?_)))
 refine oP (r := []) [0] (S' := [(0, .func (.yield l_a0) #[] #[]), (1, pb b_a1), (2, pb b_a2), (3, pb b_a3), (5, pb b4), (6, iv 0)]) ?_
 refine oD (qT ?_)
 obtain ⟨r1, h1, h0⟩ := bindS h0
 refine CodT.meet1 (fun a w => False) ?_ ?_
 ·
  refine jB ?_
  refine (fun a ha => wp_loopN (fun k a w => ∃ (x5 : Int) (x6 : (List Int)) (x8 : σ) (x9 : ByteArray) (x10 : Bool), chain_each_1.l0 Y_a0 ubf k x5 x6 x8 x9 x10 = some r1 ∧ Fr 43 [(0, .func (.yield l_a0) #[] #[]), (1, pb b_a1), (2, pb b_a2), (3, pb b_a3), (5, pb b4), (6, iv x5)] a ∧ Inv w0 Z w (star (pt b4 (.cells (q8c x6).toArray 23 (0, 0))) (star (J_a0 x8) (star (pt b_a1 (.cells ([.string x9] : LV).toArray 9 (0, 0))) (star (pt ubh (.cells ([.bool x10] : LV).toArray 4 (0, 0))) A)))) ∧ x6.length = 32) ?_ FU a w ⟨0, y2, s_a0, ube, ubg, h1, ha.keep [0, 1, 2, 3, 5, 6] (by kernel_rfl), hI, hl3⟩)
  clear h1 hI
  rintro k a w ⟨x5, x6, x8, x9, x10, h1, ha, hI, hl7⟩
  rcases k with _ | k
  ·
   cases h1
  simp only [chain_each_1.l0] at h1
  refine CodT.of ?_ ha
  refine cQ (jB (cQ (cQ (cR [0, 1, 2, 3, 4, 5, 6, 7, 8, 9, 10] ?_))))
  refine oP (r := [1, 2, 3, 4, 5, 6, 7, 8, 9, 10]) [0] (S' := [(0, .func (.yield l_a0) #[] #[]), (1, pb b_a1), (2, pb b_a2), (3, pb b_a3), (5, pb b4), (6, iv x5), (12, .func (.yield l_a0) #[] #[])]) ?_
  refine oC (jY (jL (d := 13) (T := 9) (v := .string x9) (by kernel_rfl) (ldB ty9 (l := ([.string x9] : LV)) (o := 0) (v := .string x9) (pick3 _ _ _ _) (by kernel_rfl))) hI ?_)
  refine oC (jY (jL (d := 14) (T := 23) (v := .agg (q8c x6).toArray) (by kernel_rfl) (ldBN ty23 (l := cA (Value.int .u8) x6) (o := 0) (cs := cA (Value.int .u8) x6) (ent_refl _) ((cA_length _ _).trans hl7) (whole _ _ ((cA_length _ _).trans hl7)))) hI ?_)
  have hI := hI.mono (pick2 _ _ _)
  obtain ⟨y11, hc12, h1⟩ := bindS h1
  try dsimp only at h1
  refine oC (Does.yieldCall (d := some 15) (l := l_a0) (vs := [.string x9, .agg (q8c x6).toArray]) (by kernel_rfl) (hy_a0 w Z _ x8 x9 x6 y11 hl7 (Hp.le_refl _) hc12 hI) ?_)
  rintro e w ⟨rfl, hI⟩
  refine ⟨_, rfl, ?_⟩
  refine oP (r := [7, 8, 9, 10]) [4, 5, 6] (S' := [(0, .func (.yield l_a0) #[] #[]), (1, pb b_a1), (2, pb b_a2), (3, pb b_a3), (5, pb b4), (6, iv x5), (17, .bool false), (18, iv x5)]) ?_
  refine oC (jY (jL (d := 19) (T := 24) (v := .slice ud ubf.length ucb) (by kernel_rfl) (ldZ ty24 (l := ([.slice ud ubf.length ucb] : LV)) (o := 0) (v := .slice ud ubf.length ucb) hz_a2 (by kernel_rfl))) hI ?_)
  refine oP (r := []) [8, 9, 10] (S' := [(0, .func (.yield l_a0) #[] #[]), (1, pb b_a1), (2, pb b_a2), (3, pb b_a3), (5, pb b4), (6, iv x5), (22, .bool (x5 == (ubf.length : Int)))]) ?_
  refine oD (qT ?_)
  by_cases hb13 : (x5 == (ubf.length : Int)) = true
  ·
   rw [if_pos hb13] at h1
   refine cY (b := x5 == (ubf.length : Int)) hb13 ?_
   refine jE (jR (jQ (jR (jR (jQ (jR ?_))))))
   have hI := hI.mono (pick2 _ _ _)
   have hI := hI.drop
   have e := someS h1
   subst e
   try dsimp only at h0
   have e := someS h0
   subst e
   refine qK [] (S' := []) ?_
   exact post_ret (v := .tuple #[]) (fun a ha => jU (vs := []) .nil ha (by kernel_rfl)) ⟨rfl, hI⟩
  ·
   rw [if_neg hb13] at h1
   refine cN (b := x5 == (ubf.length : Int)) (by simpa using hb13) ?_
   refine jS (qT (cQ (cR [0] ?_)))
   refine oP (r := []) [0] (S' := [(0, .func (.yield l_a0) #[] #[]), (1, pb b_a1), (2, pb b_a2), (3, pb b_a3), (5, pb b4), (6, iv x5)]) ?_
   refine oD (qT (cQ ?_))
   refine CodT.drawI (n := 12) [11] (by kernel_rfl) (by kernel_rfl) hI ?_
   intro w hI
   refine gP 2 26 (iv x5) ?_
   refine gR (i := 0) 2 (jL (d := 24) (T := 131) (v := pb ubh) (by kernel_rfl) (ldZ ty131 (l := ([pb ubh] : LV)) (o := 0) (v := pb ubh) hz_a3 (by kernel_rfl))) hI ?_
   refine gR (i := 1) 2 (jL (d := 25) (T := 24) (v := .slice ud ubf.length ucb) (by kernel_rfl) (ldZ ty24 (l := ([.slice ud ubf.length ucb] : LV)) (o := 0) (v := .slice ud ubf.length ucb) hz_a2 (by kernel_rfl))) hI ?_
   obtain ⟨hg14, h1⟩ := guardS h1
   obtain ⟨g15, o19, hA16, hr17, hl18⟩ := RdS.get ucf hg14.1 hg14.2
   refine gR (i := 3) 2 (Yl.indexSlice (d := 27) (T := 24) (cc := ucb) (k := .i64) (j := x5) (g := g15) (o := o19) (by kernel_rfl) Go.Proofs.Tryz.underlying24 ty50 hA16 hg14.1 hg14.2) hI ?_
   refine gR (i := 4) 2 (jL (d := 28) (T := 50) (v := .agg (c_ApiEvent (gt ubf x5)).toArray) (by kernel_rfl) (ldRN ty50 (cs := c_ApiEvent (gt ubf x5)) 0 (fun w hC => hr17 w0 w _ hC) hl18 (whole _ _ hl18))) hI ?_
   obtain ⟨⟨y21, y22⟩, hc20, h1⟩ := bindS h1
   try dsimp only at h1
   refine jO (i := 5) (by kernel_rfl) (jC (d := some 29) (n := 24) (vs := [.agg (c_ApiEvent (gt ubf x5)).toArray]) (by kernel_rfl) en24 (c24 w0 w _ _ hI hT (gt ubf x5) (inv_ApiEvent _ hl18) _ hc20) ?_)
   rintro e w ⟨rfl, hI⟩
   refine ⟨_, rfl, ?_⟩
   refine ⟨fun _ _ => hI, ?_⟩
   refine gP 6 23 (.tuple #[.string y21, .bool y22]) ?_
   refine gP 7 30 (.string y21) ?_
   refine gP 8 31 (.bool y22) ?_
   refine gP 9 7 (.string y21) ?_
   refine gP 10 32 (pb ubh) ?_
   have hI := hI.mono (pick4 _ _ _ _ _)
   refine jO (i := 11) (by kernel_rfl) (dS (T := 4) (b := ubh) (o := 0) (v := .bool y22) (l := ([.bool x10] : LV)) (vs := ([.bool y22] : LV)) (L' := ([.bool y22] : LV)) (by kernel_rfl) ty4 hI (by kernel_rfl) (by kernel_rfl) (by kernel_rfl) (by kernel_rfl) (by kernel_rfl) ?_)
   intro w hI
   refine ⟨fun h => absurd h (by decide), ?_⟩
   refine jD (by kernel_rfl) ?_
   refine qT (cQ (cQ (cR [0, 1, 2, 3] ?_)))
   refine oC (jY (jL (d := 33) (T := 131) (v := pb ubh) (by kernel_rfl) (ldZ ty131 (l := ([pb ubh] : LV)) (o := 0) (v := pb ubh) hz_a3 (by kernel_rfl))) hI ?_)
   refine oP (r := [2, 3]) [1] (S' := [(0, .func (.yield l_a0) #[] #[]), (1, pb b_a1), (2, pb b_a2), (3, pb b_a3), (5, pb b4), (6, iv x5), (7, .string y21), (34, pb ubh)]) ?_
   refine oC (jY (jL (d := 35) (T := 4) (v := .bool y22) (by kernel_rfl) (ldB ty4 (l := ([.bool y22] : LV)) (o := 0) (v := .bool y22) (ent_refl _) (by kernel_rfl))) hI ?_)
   refine oP (r := []) [3] (S' := [(0, .func (.yield l_a0) #[] #[]), (1, pb b_a1), (2, pb b_a2), (3, pb b_a3), (5, pb b4), (6, iv x5), (7, .string y21), (36, .bool (!y22))]) ?_
   refine oD (qT ?_)
   by_cases hb23 : (!y22) = true
   ·
    rw [if_pos hb23] at h1
    refine cY (b := !y22) hb23 ?_
    refine jE (jR (jQ (jR (jR (jQ (jR ?_))))))
    have hI := hI.mono (pick3 _ _ _ _)
    have hI := hI.drop
    have hI := hI.mono (pick3 _ _ _ _)
    have hI := hI.mono (pick3 _ _ _ _)
    have e := someS h1
    subst e
    try dsimp only at h0
    have e := someS h0
    subst e
    refine qK [] (S' := []) ?_
    exact post_ret (v := .tuple #[]) (fun a ha => jU (vs := []) .nil ha (by kernel_rfl)) ⟨rfl, hI⟩
   ·
    rw [if_neg hb23] at h1
    refine cN (b := !y22) (by simpa using hb23) ?_
    refine jS (qT (cQ (cR [0, 1, 2, 3, 4] ?_)))
    refine oP (r := [1, 2, 3, 4]) [0] (S' := [(0, .func (.yield l_a0) #[] #[]), (1, pb b_a1), (2, pb b_a2), (3, pb b_a3), (5, pb b4), (6, iv x5), (7, .string y21), (37, .slice (some ⟨b4, 0, none⟩) 32 32)]) ?_
    refine oC (jY (Yl.b2sV (d := 38) (src := 52) (dst := 9) (g := b4) (o := 0) (c := 32) (n := 32) (xs := x6) (by kernel_rfl) Go.Proofs.Tryz.underlying52 Go.Proofs.Tryz.underlying5 Go.Proofs.Tryz.underlying9 hl7 (fun w hC => range_at (hC.mono (pick3 _ _ _ _)).block (fun j v hv => by simpa using hv))) hI ?_)
    refine oP (r := [3, 4]) [2] (S' := [(0, .func (.yield l_a0) #[] #[]), (1, pb b_a1), (2, pb b_a2), (3, pb b_a3), (5, pb b4), (6, iv x5), (38, .string (strOfNums x6)), (39, .string y21)]) ?_
    obtain ⟨hg24, h1⟩ := guardS h1
    refine oC (jY (Yl.cat (d := 40) (T := 9) (x := strOfNums x6) (y := y21) (by kernel_rfl) hg24) hI ?_)
    have hI := hI.mono (pick4 _ _ _ _ _)
    refine oC (dS (T := 9) (b := b_a1) (o := 0) (v := .string ((strOfNums x6) ++ y21)) (l := ([.string x9] : LV)) (vs := ([.string ((strOfNums x6) ++ y21)] : LV)) (L' := ([.string ((strOfNums x6) ++ y21)] : LV)) (by kernel_rfl) ty9 hI (by kernel_rfl) (by kernel_rfl) (by kernel_rfl) (by kernel_rfl) (by kernel_rfl) ?_)
    intro w hI
    refine oD (qT (cR [0, 1, 2] ?_))
    refine oC (jY (jL (d := 41) (T := 9) (v := .string ((strOfNums x6) ++ y21)) (by kernel_rfl) (ldB ty9 (l := ([.string ((strOfNums x6) ++ y21)] : LV)) (o := 0) (v := .string ((strOfNums x6) ++ y21)) (ent_refl _) (by kernel_rfl))) hI ?_)
    obtain ⟨y26, hc25, h1⟩ := bindS h1
    try dsimp only at h1
    refine oC (jC (d := some 42) (n := 49) (vs := [.string ((strOfNums x6) ++ y21)]) (by kernel_rfl) en49 (c49 w0 w _ _ hI hT ((strOfNums x6) ++ y21) _ hc25) ?_)
    rintro e w ⟨rfl, hl27, hI⟩
    refine ⟨_, rfl, ?_⟩
    have hI := hI.mono (pick4 _ _ _ _ _)
    refine oC (jV (T := 23) (b := b4) (n := 32) (xs := x6) (ys := y26) (by kernel_rfl) ty23 hI (fun _ => rfl) hl7 hl27 ?_)
    intro w hI
    refine oD (jN (qT (cR [0, 1, 2] ?_)))
    refine oP (r := []) [0, 1, 2] (S' := [(0, .func (.yield l_a0) #[] #[]), (1, pb b_a1), (2, pb b_a2), (3, pb b_a3), (5, pb b4), (6, iv (wi64 (x5 + 1)))]) ?_
    refine oD ?_
    have hI := hI.mono (pick3 _ _ _ _)
    have hI := hI.mono (pick3 _ _ _ _)
    have hI := hI.mono (pick4 _ _ _ _ _)
    have hI := hI.mono (pick4 _ _ _ _ _)
    exact jT fun a ha => ⟨k, Nat.lt_succ_self k, wi64 (x5 + 1), y26, y11, (strOfNums x6) ++ y21, y22, h1, ha.keep [0, 1, 2, 3, 5, 6] (by kernel_rfl), hI, hl27⟩
 ·
  intro a w h; exact h.elim
/-- cenotaph/chain.both -/
theorem c65 (w0 w : World) (Z : Hp) (A : HP) (hI : Inv w0 Z w A) (hT : Tabs Z) (A_a0 : Option Addr) (c_a0 : Nat) (a0 : (List ApiEvent)) (hr_a0 : RdS Z c_ApiEvent 37 A_a0 c_a0 a0) (r : ((List ByteArray) × (List (List Int)))) (h0 : chain_both a0 = some r) :
  Calls prog 65 #[.slice A_a0 a0.length c_a0] w (fun e w' => ∃ (A1 : Option Addr) (c1 : Nat) (A2 : Option Addr) (c2 : Nat), e = .returned (.tuple #[.slice A1 r.1.length c1, .slice A2 r.2.length c2]) ∧ Inv w0 Z w' (star (ownS 9 cS 1 A1 c1 r.1) (star (ownS 23 (cA (Value.int .u8)) 32 A2 c2 r.2) A))) := by
 have e4 := calls_introM (R := (fun e w' => ∃ (A1 : Option Addr) (c1 : Nat) (A2 : Option Addr) (c2 : Nat), e = .returned (.tuple #[.slice A1 r.1.length c1, .slice A2 r.2.length c2]) ∧ Inv w0 Z w' (star (ownS 9 cS 1 A1 c1 r.1) (star (ownS 23 (cA (Value.int .u8)) 32 A2 c2 r.2) A)))) (w := w) (args := [.slice A_a0 a0.length c_a0]) (fn := Go.Proofs.Tryz.f65) 25 Go.Proofs.Tryz.func65 (by rfl) Go.Proofs.Tryz.ntmps65 (by kernel_rfl)
 refine e4 ?_
 clear e4
 unfold chain_both at h0
 refine cQ (cR [0, 1] ?_)
 refine oP (r := []) [0, 1] (S' := [(0, .slice A_a0 a0.length c_a0)]) ?_
 refine oD (qT (cQ (cR [0] ?_)))
 refine oC (jA (d := 4) (T := 36) ([.slice none 0 0] : LV) (by kernel_rfl) ty36 hI (by kernel_rfl) ?_)
 intro b1 w hI
 refine oD (qT (cQ (cR [0] ?_)))
 refine oC (jA (d := 5) (T := 79) ([.slice none 0 0] : LV) (by kernel_rfl) ty79 hI (by kernel_rfl) ?_)
 intro b2 w hI
 refine oD (qT (cQ (cR [0, 1] ?_)))
 refine oC (jA (d := 6) (T := 4) ([.bool false] : LV) (by kernel_rfl) ty4 hI (by kernel_rfl) ?_)
 intro b3 w hI
 refine oC (dS (T := 4) (b := b3) (o := 0) (v := .bool true) (l := ([.bool false] : LV)) (vs := ([.bool true] : LV)) (L' := ([.bool true] : LV)) (by kernel_rfl) ty4 hI (by kernel_rfl) (by kernel_rfl) (by kernel_rfl) (by kernel_rfl) (by kernel_rfl) ?_)
 intro w hI
 refine oD (qT (cQ (cQ (cR [0, 1] ?_))))
 refine oP (r := [1]) [0] (S' := [(4, pb b1), (5, pb b2), (6, pb b3), (9, .slice A_a0 a0.length c_a0)]) ?_
 obtain ⟨⟨y6, y8⟩, hc4, h0⟩ := bindS h0
 try dsimp only at h0
 refine oC (jC (d := some 10) (n := 85) (vs := [.string (⟨#[99, 101, 110, 111, 116, 97, 112, 104]⟩ : ByteArray), .slice A_a0 a0.length c_a0, pb b3]) (by kernel_rfl) en85 (c85 w0 w _ _ hI hT (⟨#[99, 101, 110, 111, 116, 97, 112, 104]⟩ : ByteArray) A_a0 c_a0 a0 hr_a0 b3 _ hc4) ?_)
 rintro e w ⟨b5, b7, A9, cp10, b13, Z15, hle16, rfl, hr11, hz12, hz14, hI⟩
 refine ⟨_, rfl, ?_⟩
 refine oD (qT (jB ?_))
 have hI := ownS_nil (α := (List Int)) hI 23 (cA (Value.int .u8)) 32
 have hI := ownS_nil (α := ByteArray) hI 9 cS 1
 refine CodT.rangeFn (f := 101) (cp := [pb b5, pb b7, pb b13]) (by kernel_rfl) en101 hI ?_
 intro ac25 l23 rr24 w rc26 fn27 hrc28 ha29 hI
 obtain ⟨J30, hJ31⟩ : ∃ J : ((List (List Int)) × (List ByteArray)) → HP, J = fun s => match s with | (x17, x20) => (hpEx fun (A18 : Option Addr) => (hpEx fun (cp19 : Nat) => (hpEx fun (A21 : Option Addr) => (hpEx fun (cp22 : Nat) => (star (ownS 23 (cA (Value.int .u8)) 32 A18 cp19 x17) (star (pt b2 (.cells ([.slice A18 x17.length cp19] : LV).toArray 79 (0, 0))) (star (ownS 9 cS 1 A21 cp22 x20) (star (pt b1 (.cells ([.slice A21 x20.length cp22] : LV).toArray 36 (0, 0))) (pt l23 (rc26 .ready)))))))))) := ⟨_, rfl⟩
 have hY32 : ∀ (w : World) (Z' : Hp) (R : HP) (s : ((List (List Int)) × (List ByteArray))) (y33 : ByteArray) (y34 : (List Int)) (r : ((List (List Int)) × (List ByteArray))), y34.length = 32 → Z15.le Z' → chain_both.y1 s y33 y34 = some r → Inv w0 Z' w (star (J30 s) R) → YAt prog l23 [.string y33, .agg (q8c y34).toArray] w (fun e w' => e = .returned (.bool true) ∧ Inv w0 Z' w' (star (J30 r) R)) := by
  rintro w Z2 R ⟨x17, x20⟩ y33 y34 r_ hl35 hle2 h1 hI
  rw [hJ31] at hI ⊢
  dsimp only at hI ⊢
  unfold chain_both.y1 at h1
  try dsimp only at h1
  obtain ⟨A18, hI⟩ := hI.exo
  obtain ⟨cp19, hI⟩ := hI.exo
  obtain ⟨A21, hI⟩ := hI.exo
  obtain ⟨cp22, hI⟩ := hI.exo
  have hI := hI.mono (ung5 _ _ _ _ _ _)
  have hI := hI.mono (pick5 _ _ _ _ _ _)
  refine YAt.roundN hrc28 hI rfl ha29 (by kernel_rfl) ?_
  refine CodT.keep [4, 5, 11, 12] (S' := [(4, pb b1), (5, pb b2), (11, .string y33), (12, .agg (q8c y34).toArray)]) (by kernel_rfl) ?_
  refine cQ (cR [0] ?_)
  refine oP (r := []) [0] (S' := [(4, pb b1), (5, pb b2), (7, .string y33), (12, .agg (q8c y34).toArray)]) ?_
  refine oD (qT (cR [0, 1] ?_))
  refine oC (jA (d := 8) (T := 23) (q8c q8z) (by kernel_rfl) ty23 hI (by kernel_rfl) ?_)
  intro b36 w hI
  refine oC (jV (T := 23) (b := b36) (n := 32) (xs := q8z) (ys := y34) (by kernel_rfl) ty23 hI (fun _ => rfl) (by kernel_rfl) hl35 ?_)
  intro w hI
  refine oD ?_
  have hI := hI.mono (pick2 _ _ _)
  refine jT fun a ha => ⟨_, _, hI, fun w hI => ?_⟩
  refine CodT.of ?_ ha
  refine jB (cQ (cR [0, 1, 2, 3, 4] ?_))
  refine oC (jY (jL (d := 13) (T := 36) (v := .slice A21 x20.length cp22) (by kernel_rfl) (ldB ty36 (l := ([.slice A21 x20.length cp22] : LV)) (o := 0) (v := .slice A21 x20.length cp22) (pick6 _ _ _ _ _ _ _) (by kernel_rfl))) hI ?_)
  refine oP (r := [2, 3, 4]) [1] (S' := [(4, pb b1), (5, pb b2), (8, pb b36), (13, .slice A21 x20.length cp22), (14, .string y33)]) ?_
  refine oC (Does.buildSlice (en := cS) (d := 15) (n := 1) (T := 36) (ps := [(0, .string y33)]) ([y33] : List ByteArray) (by kernel_rfl) Go.Proofs.Tryz.underlying36 ty9 (by kernel_rfl) (by kernel_rfl) (by kernel_rfl) (by kernel_rfl) (len_all (fun _ => rfl)) hI ?_)
  intro b37 w hI
  obtain ⟨hg38, h1⟩ := guardS h1
  have hI := hI.mono (pick6 _ _ _ _ _ _ _)
  refine oC (Does.append (d := 16) (t := 36) (tx := 36) (ty := 36) (ys := x20) (zs := ([y33] : List ByteArray)) (x := .slice (some ⟨b37, 0, none⟩) (([y33] : List ByteArray).length) 1) (by kernel_rfl) Go.Proofs.Tryz.underlying36 ty9 (by kernel_rfl) hI (src_own Go.Proofs.Tryz.underlying36 (hI.mono (pick2 _ _ _)) (one_flat _ (fun _ => rfl))) (ownS_facts (hI.mono (pick2 _ _ _))).2.2 (by unfold LIM at hg38; omega) hg38 ?_)
  intro A39 cp40 w hI
  have hI := hI.mono (pick7 _ _ _ _ _ _ _ _)
  refine oC (dS (T := 36) (b := b1) (o := 0) (v := .slice A39 ((x20 ++ ([y33] : List ByteArray)).length) cp40) (l := ([.slice A21 x20.length cp22] : LV)) (vs := ([.slice A39 ((x20 ++ ([y33] : List ByteArray)).length) cp40] : LV)) (L' := ([.slice A39 ((x20 ++ ([y33] : List ByteArray)).length) cp40] : LV)) (by kernel_rfl) ty36 hI (by kernel_rfl) (by kernel_rfl) (by kernel_rfl) (by kernel_rfl) (by kernel_rfl) ?_)
  intro w hI
  refine oD (qT (cR [0, 1, 2, 3, 4] ?_))
  refine oC (jY (jL (d := 17) (T := 79) (v := .slice A18 x17.length cp19) (by kernel_rfl) (ldB ty79 (l := ([.slice A18 x17.length cp19] : LV)) (o := 0) (v := .slice A18 x17.length cp19) (pick7 _ _ _ _ _ _ _ _) (by kernel_rfl))) hI ?_)
  refine oC (jY (jL (d := 18) (T := 23) (v := .agg (q8c y34).toArray) (by kernel_rfl) (ldBN ty23 (l := cA (Value.int .u8) y34) (o := 0) (cs := cA (Value.int .u8) y34) (pick5 _ _ _ _ _ _) ((cA_length _ _).trans hl35) (whole _ _ ((cA_length _ _).trans hl35)))) hI ?_)
  refine oC (Does.buildSliceAll (en := (cA (Value.int .u8))) (d := 19) (n := 1) (T := 79) (ps := [(0, .agg (q8c y34).toArray)]) (fun y => .agg ((cA (Value.int .u8)) y).toArray) (fun _ => rfl) ([y34] : List (List Int)) (by kernel_rfl) rfl Go.Proofs.Tryz.underlying79 ty23 rfl (by kernel_rfl) (by kernel_rfl) (by decide +kernel) (List.forall_mem_cons.2 ⟨((cA_length _ _).trans hl35), (fun _ h => by cases h)⟩) hI ?_)
  intro b41 w hI
  obtain ⟨hg42, h1⟩ := guardS h1
  have hI := hI.mono (pick7 _ _ _ _ _ _ _ _)
  refine oC (Does.append (d := 20) (t := 79) (tx := 79) (ty := 79) (ys := x17) (zs := ([y34] : List (List Int))) (x := .slice (some ⟨b41, 0, none⟩) (([y34] : List (List Int)).length) 1) (by kernel_rfl) Go.Proofs.Tryz.underlying79 ty23 (by kernel_rfl) hI (src_own Go.Proofs.Tryz.underlying79 (hI.mono (pick2 _ _ _)) (one_flat _ (fun u => ones_cA u))) (ownS_facts (hI.mono (pick2 _ _ _))).2.2 (by unfold LIM at hg42; omega) hg42 ?_)
  intro A43 cp44 w hI
  have hI := hI.mono (pick8 _ _ _ _ _ _ _ _ _)
  refine oC (dS (T := 79) (b := b2) (o := 0) (v := .slice A43 ((x17 ++ ([y34] : List (List Int))).length) cp44) (l := ([.slice A18 x17.length cp19] : LV)) (vs := ([.slice A43 ((x17 ++ ([y34] : List (List Int))).length) cp44] : LV)) (L' := ([.slice A43 ((x17 ++ ([y34] : List (List Int))).length) cp44] : LV)) (by kernel_rfl) ty79 hI (by kernel_rfl) (by kernel_rfl) (by kernel_rfl) (by kernel_rfl) (by kernel_rfl) ?_)
  intro w hI
  refine oD (jN ?_)
  have hI := hI.mono (pick3 _ _ _ _)
  have hI := hI.drop
  have hI := hI.mono (pick5 _ _ _ _ _ _)
  have hI := hI.drop
  have hI := hI.mono (pick6 _ _ _ _ _ _ _)
  have hI := hI.drop
  have hI := hI.mono (pick5 _ _ _ _ _ _)
  have hI := hI.mono (pick4 _ _ _ _ _)
  have hI := hI.mono (pick5 _ _ _ _ _ _)
  have hI := hI.mono (pick4 _ _ _ _ _)
  have hI := hI.mono (pick5 _ _ _ _ _ _)
  have e := someS h1
  subst e
  have hI := hI.mono (pick5 _ _ _ _ _ _)
  refine Qn.roundN hrc28 hI ?_
  intro w hI
  refine ⟨rfl, ?_⟩
  have hI := hI.mono (pick5 _ _ _ _ _ _)
  have hI := hI.mono (pick5 _ _ _ _ _ _)
  have hI := hI.mono (pick5 _ _ _ _ _ _)
  have hI := hI.mono (pick5 _ _ _ _ _ _)
  have hI := hI.mono (grp5 _ _ _ _ _ _)
  exact (Inv.exc A43 (Inv.exc cp44 (Inv.exc A39 (Inv.exc cp40 hI))))
 have hI := hI.mono (pick8 _ _ _ _ _ _ _ _ _)
 have hI := hI.mono (pick4 _ _ _ _ _)
 have hI := hI.mono (pick8 _ _ _ _ _ _ _ _ _)
 have hI := hI.mono (pick6 _ _ _ _ _ _ _)
 have hI := hI.mono (grp5 _ _ _ _ _ _)
 replace hI : Inv w0 Z15 w (star (J30 (([] : List (List Int)), ([] : List ByteArray))) (star (pt rr24 (.deferred (some []))) (star (pt b5 (.cells ([.string y6] : LV).toArray 9 (0, 0))) (star (pt b3 (.cells ([.bool true] : LV).toArray 4 (0, 0))) A)))) := by rw [hJ31]; exact (Inv.exc none (Inv.exc 0 (Inv.exc none (Inv.exc 0 hI))))
 have hI := hI.mono (pick4 _ _ _ _ _)
 have hI := hI.mono (pick4 _ _ _ _ _)
 have hI := hI.mono (pick3 _ _ _ _)
 obtain ⟨⟨y45, y46, y47⟩, hc48, h0⟩ := bindS h0
 try dsimp only at h0
 refine Calls.mono (c101 w0 w _ _ (hT.mono hle16) l23 J30 chain_both.y1 (([] : List (List Int)), ([] : List ByteArray)) hY32 b5 y6 b7 A9 cp10 y8 hr11 hz12 b13 b3 true hz14 hI _ hc48) ?_
 rintro e w ⟨rfl, hI⟩
 obtain ⟨x49, x50⟩ := y45
 rw [hJ31] at hI
 dsimp only at hI
 try dsimp only at h0
 obtain ⟨A51, hI⟩ := hI.exo
 obtain ⟨cp52, hI⟩ := hI.exo
 obtain ⟨A53, hI⟩ := hI.exo
 obtain ⟨cp54, hI⟩ := hI.exo
 have hI := hI.mono (ung5 _ _ _ _ _ _)
 have hI := hI.mono (pick5 _ _ _ _ _ _)
 refine ⟨_, _, _, rfl, hI, ?_⟩
 intro w hI
 refine jN (qT (cQ (cQ (cR [0, 1] ?_))))
 refine oC (jY (jL (d := 21) (T := 4) (v := .bool y47) (by kernel_rfl) (ldB ty4 (l := ([.bool y47] : LV)) (o := 0) (v := .bool y47) (pick6 _ _ _ _ _ _ _) (by kernel_rfl))) hI ?_)
 refine oP (r := []) [1] (S' := [(4, pb b1), (5, pb b2), (22, .bool (!y47))]) ?_
 refine oD (qT ?_)
 by_cases hb55 : (!y47) = true
 ·
  rw [if_pos hb55] at h0
  refine cY (b := !y47) hb55 ?_
  refine cQ (cR [0, 1] ?_)
  refine oP (r := []) [0, 1] (S' := [(2, .slice none 0 0), (3, .slice none 0 0)]) ?_
  refine oD (qT (jE (jR ?_)))
  have hI := ownS_nil (α := ByteArray) hI 9 cS 1
  have hI := ownS_nil (α := (List Int)) hI 23 (cA (Value.int .u8)) 32
  have hI := hI.mono (pick9 _ _ _ _ _ _ _ _ _ _)
  refine post_mark hI ?_
  intro w hI
  have hI := hI.mono (pick3 _ _ _ _)
  have hI := hI.drop
  have hI := hI.mono (pick3 _ _ _ _)
  have hI := hI.drop
  have hI := hI.mono (pick3 _ _ _ _)
  have hI := hI.drop
  have hI := hI.mono (pick3 _ _ _ _)
  have hI := hI.drop
  have hI := hI.mono (pick3 _ _ _ _)
  have hI := hI.drop
  have hI := hI.mono (pick3 _ _ _ _)
  have hI := hI.drop
  have hI := hI.mono (pick2 _ _ _)
  have e := someS h0
  subst e
  refine qK [2, 3] (S' := [(2, .slice none 0 0), (3, .slice none 0 0)]) ?_
  exact post_retM (v := .tuple #[.slice none 0 0, .slice none 0 0]) (fun a ha => jU (vs := [.slice none 0 0, .slice none 0 0]) (.tmp (t := 2) (by kernel_rfl) (.tmp (t := 3) (by kernel_rfl) .nil)) ha (by kernel_rfl)) ⟨none, 0, none, 0, rfl, hI.weaken hle16⟩
 ·
  rw [if_neg hb55] at h0
  refine cN (b := !y47) (by simpa using hb55) ?_
  refine jS (qT (cQ ?_))
  refine CodT.drawI (n := 4) [] (by kernel_rfl) (by kernel_rfl) hI ?_
  intro w hI
  refine gR (i := 0) 2 (jL (d := 23) (T := 36) (v := .slice A53 x50.length cp54) (by kernel_rfl) (ldB ty36 (l := ([.slice A53 x50.length cp54] : LV)) (o := 0) (v := .slice A53 x50.length cp54) (pick4 _ _ _ _ _) (by kernel_rfl))) hI ?_
  refine gP 2 2 (.slice A53 x50.length cp54) ?_
  refine gR (i := 1) 2 (jL (d := 24) (T := 79) (v := .slice A51 x49.length cp52) (by kernel_rfl) (ldB ty79 (l := ([.slice A51 x49.length cp52] : LV)) (o := 0) (v := .slice A51 x49.length cp52) (pick2 _ _ _) (by kernel_rfl))) hI ?_
  refine gP 3 3 (.slice A51 x49.length cp52) ?_
  refine jD (by kernel_rfl) ?_
  refine qT (jE ?_)
  have hI := hI.mono (pick7 _ _ _ _ _ _ _ _)
  refine post_mark hI ?_
  intro w hI
  have hI := hI.mono (pick2 _ _ _)
  have hI := hI.drop
  have hI := hI.mono (pick3 _ _ _ _)
  have hI := hI.drop
  have hI := hI.mono (pick3 _ _ _ _)
  have hI := hI.drop
  have hI := hI.mono (pick3 _ _ _ _)
  have hI := hI.drop
  have hI := hI.mono (pick2 _ _ _)
  have e := someS h0
  subst e
  refine qK [2, 3] (S' := [(2, .slice A53 x50.length cp54), (3, .slice A51 x49.length cp52)]) ?_
  exact post_retM (v := .tuple #[.slice A53 x50.length cp54, .slice A51 x49.length cp52]) (fun a ha => jU (vs := [.slice A53 x50.length cp54, .slice A51 x49.length cp52]) (.tmp (t := 2) (by kernel_rfl) (.tmp (t := 3) (by kernel_rfl) .nil)) ha (by kernel_rfl)) ⟨A53, cp54, A51, cp52, rfl, hI.weaken hle16⟩
/-- cenotaph/chain.Heads -/
theorem c46 (w0 w : World) (Z : Hp) (A : HP) (hI : Inv w0 Z w A) (hT : Tabs Z) (A_a0 : Option Addr) (c_a0 : Nat) (a0 : (List ApiEvent)) (hr_a0 : RdS Z c_ApiEvent 37 A_a0 c_a0 a0) (r : (List (List Int))) (h0 : chain_Heads a0 = some r) :
  Calls prog 46 #[.slice A_a0 a0.length c_a0] w (fun e w' => ∃ (A1 : Option Addr) (c1 : Nat), e = .returned (.slice A1 r.length c1) ∧ Inv w0 Z w' (star (ownS 23 (cA (Value.int .u8)) 32 A1 c1 r) A)) := by
 have e4 := calls_intro (R := (fun e w' => ∃ (A1 : Option Addr) (c1 : Nat), e = .returned (.slice A1 r.length c1) ∧ Inv w0 Z w' (star (ownS 23 (cA (Value.int .u8)) 32 A1 c1 r) A))) (w := w) (args := [.slice A_a0 a0.length c_a0]) (fn := Go.Proofs.Tryz.f46) 11 Go.Proofs.Tryz.func46 (by rfl) Go.Proofs.Tryz.ntmps46 (by kernel_rfl)
 refine e4 ?_
 clear e4
 unfold chain_Heads at h0
 refine cQ (cR [0] ?_)
 refine oP (r := []) [0] (S' := [(0, .slice A_a0 a0.length c_a0)]) ?_
 refine oD (qT (cQ (cR [0, 1, 2, 3, 4, 5, 6] ?_)))
 refine oP (r := [1, 2, 3, 4, 5, 6]) [0] (S' := [(6, .slice A_a0 a0.length c_a0)]) ?_
 obtain ⟨⟨y2, y5⟩, hc1, h0⟩ := bindS h0
 try dsimp only at h0
 refine oC (jC (d := some 7) (n := 65) (vs := [.slice A_a0 a0.length c_a0]) (by kernel_rfl) en65 (c65 w0 w _ _ hI hT A_a0 c_a0 a0 hr_a0 _ hc1) ?_)
 rintro e w ⟨A3, cp4, A6, cp7, rfl, hI⟩
 refine ⟨_, rfl, ?_⟩
 refine oP (r := []) [2, 3, 4, 5, 6] (S' := [(4, .slice A6 y5.length cp7)]) ?_
 refine oD (qT (cQ (cR [0, 1] ?_)))
 refine oP (r := []) [0, 1] (S' := [(2, .slice A6 y5.length cp7)]) ?_
 refine oD (qT (jE ?_))
 have hI := hI.drop
 have e := someS h0
 subst e
 refine qK [2] (S' := [(2, .slice A6 y5.length cp7)]) ?_
 exact post_ret (v := .slice A6 y5.length cp7) (fun a ha => jU (vs := [.slice A6 y5.length cp7]) (.tmp (t := 2) (by kernel_rfl) .nil) ha (by kernel_rfl)) ⟨A6, cp7, rfl, hI⟩
/-- slices.Clone[[]cenotaph/api.Event,cenotaph/api.Event] -/
theorem c47 (w0 w : World) (Z : Hp) (A : HP) (hI : Inv w0 Z w A) (hT : Tabs Z) (A_a0 : Option Addr) (c_a0 : Nat) (a0 : (List ApiEvent)) (hr_a0 : RdS Z c_ApiEvent 37 A_a0 c_a0 a0) (r : (List ApiEvent)) (h0 : slices_Clone_apiEvent a0 = some r) :
  Calls prog 47 #[.slice A_a0 a0.length c_a0] w (fun e w' => ∃ (A1 : Option Addr) (c1 : Nat), e = .returned (.slice A1 r.length c1) ∧ Inv w0 Z w' (star (ownS 50 c_ApiEvent 37 A1 c1 r) A)) := by
 have e4 := calls_intro (R := (fun e w' => ∃ (A1 : Option Addr) (c1 : Nat), e = .returned (.slice A1 r.length c1) ∧ Inv w0 Z w' (star (ownS 50 c_ApiEvent 37 A1 c1 r) A))) (w := w) (args := [.slice A_a0 a0.length c_a0]) (fn := Go.Proofs.Tryz.f47) 8 Go.Proofs.Tryz.func47 (by rfl) Go.Proofs.Tryz.ntmps47 (by kernel_rfl)
 refine e4 ?_
 clear e4
 unfold slices_Clone_apiEvent at h0
 refine cQ (cR [0] ?_)
 refine oP (r := []) [0] (S' := [(0, .slice A_a0 a0.length c_a0)]) ?_
 refine oD (qT (cQ (cQ (cR [0, 1] ?_))))
 refine oP (r := [1]) [0] (S' := [(0, .slice A_a0 a0.length c_a0), (3, .slice A_a0 a0.length c_a0)]) ?_
 rcases A_a0 with _ | ad1
 rotate_left
 ·
  refine oC (jY (Yl.eqlNilF (d := 4) (T := 24) (n := a0.length) (c := c_a0) (ad := ad1) (by kernel_rfl) Go.Proofs.Tryz.underlying24 (by kernel_rfl)) hI ?_)
  refine oD (qT ?_)
  refine CodT.no (by kernel_rfl) ?_
  refine jS (qT (cQ (cR [0, 1, 2, 3] ?_)))
  refine oC (Does.buildSlice0 (en := c_ApiEvent) (d := 5) (T := 24) (by kernel_rfl) Go.Proofs.Tryz.underlying24 ty50 hI ?_)
  intro b2 w hI
  refine oP (r := [2, 3]) [1] (S' := [(5, .slice (some ⟨b2, 0, none⟩) (([] : List ApiEvent).length) 0), (6, .slice (some ad1) a0.length c_a0)]) ?_
  obtain ⟨hg3, h0⟩ := guardS h0
  refine oC (Does.append (d := 7) (t := 24) (tx := 24) (ty := 24) (ys := ([] : List ApiEvent)) (zs := a0) (x := .slice (some ad1) a0.length c_a0) (by kernel_rfl) Go.Proofs.Tryz.underlying24 ty50 (by kernel_rfl) hI (src_rd Go.Proofs.Tryz.underlying24 hI hr_a0 (one_flat _ one_ApiEvent)) hr_a0.2.2.1 (by unfold LIM at hg3; omega) hg3 ?_)
  intro A4 cp5 w hI
  refine oP (r := []) [3] (S' := [(2, .slice A4 ((([] : List ApiEvent) ++ a0).length) cp5)]) ?_
  refine oD (qT (jE ?_))
  have e := someS h0
  subst e
  refine qK [2] (S' := [(2, .slice A4 ((([] : List ApiEvent) ++ a0).length) cp5)]) ?_
  exact post_ret (v := .slice A4 ((([] : List ApiEvent) ++ a0).length) cp5) (fun a ha => jU (vs := [.slice A4 ((([] : List ApiEvent) ++ a0).length) cp5]) (.tmp (t := 2) (by kernel_rfl) .nil) ha (by kernel_rfl)) ⟨A4, cp5, rfl, hI⟩
 ·
  have hy6 := RdS.of_none hr_a0
  subst hy6
  replace h0 : some ([] : List ApiEvent) = some r := by simpa [LIM] using h0
  refine oC (jY (Yl.eqlNilT (d := 4) (T := 24) (n := ([] : List ApiEvent).length) (c := c_a0) (by kernel_rfl) Go.Proofs.Tryz.underlying24 (by kernel_rfl)) hI ?_)
  refine oD (qT ?_)
  refine CodT.yes (by kernel_rfl) ?_
  refine cQ (cR [0] ?_)
  refine oP (r := []) [0] (S' := [(2, .slice none 0 0)]) ?_
  refine oD (qT (jE (jR ?_)))
  have hI := ownS_nil (α := ApiEvent) hI 50 c_ApiEvent 37
  have e := someS h0
  subst e
  refine qK [2] (S' := [(2, .slice none 0 0)]) ?_
  exact post_ret (v := .slice none 0 0) (fun a ha => jU (vs := [.slice none 0 0]) (.tmp (t := 2) (by kernel_rfl) .nil) ha (by kernel_rfl)) ⟨none, 0, rfl, hI⟩
/-- cenotaph/bundle.Export -/
theorem c18 (w0 w : World) (Z : Hp) (A : HP) (hI : Inv w0 Z w A) (hT : Tabs Z) (A_a0 : Option Addr) (c_a0 : Nat) (a0 : (List ApiEvent)) (hr_a0 : RdS Z c_ApiEvent 37 A_a0 c_a0 a0) (a1 : Int) (a2 : Int) (r : (Int × (List Int) × (List ApiEvent) × Bool)) (h0 : bundle_Export a0 a1 a2 = some r) :
  Calls prog 18 #[.slice A_a0 a0.length c_a0, iv a1, iv a2] w (fun e w' => ∃ (A1 : Option Addr) (c1 : Nat), e = .returned (.tuple #[.agg ((([iv r.1] : LV) ++ (q8c r.2.1) ++ ([.slice A1 r.2.2.1.length c1] : LV))).toArray, .bool r.2.2.2]) ∧ r.2.1.length = 32 ∧ Inv w0 Z w' (star (ownS 50 c_ApiEvent 37 A1 c1 r.2.2.1) A)) := by
 have e4 := calls_intro (R := (fun e w' => ∃ (A1 : Option Addr) (c1 : Nat), e = .returned (.tuple #[.agg ((([iv r.1] : LV) ++ (q8c r.2.1) ++ ([.slice A1 r.2.2.1.length c1] : LV))).toArray, .bool r.2.2.2]) ∧ r.2.1.length = 32 ∧ Inv w0 Z w' (star (ownS 50 c_ApiEvent 37 A1 c1 r.2.2.1) A))) (w := w) (args := [.slice A_a0 a0.length c_a0, iv a1, iv a2]) (fn := Go.Proofs.Tryz.f18) 45 Go.Proofs.Tryz.func18 (by rfl) Go.Proofs.Tryz.ntmps18 (by kernel_rfl)
 refine e4 ?_
 clear e4
 unfold bundle_Export at h0
 refine cQ (cR [0, 1] ?_)
 refine oC (jA (d := 6) (T := 26) q8b (by kernel_rfl) ty26 hI (by kernel_rfl) ?_)
 intro b1 w hI
 refine oP (r := []) [1] (S' := [(0, .slice A_a0 a0.length c_a0), (1, iv a1), (2, iv a2), (6, pb b1)]) ?_
 refine oD (qT (cQ ?_))
 obtain ⟨r1, h1, h0⟩ := bindS h0
 refine jM (fun a w => ∃ (x2 : Bool), x2 = r1 ∧ Fr 45 [(0, .slice A_a0 a0.length c_a0), (1, iv a1), (2, iv a2), (6, pb b1), (26, .bool x2)] a ∧ Inv w0 Z w (star (pt b1 (.cells q8b.toArray 26 (0, 0))) A)) ?_ ?_
 ·
  refine cR [0, 1, 2, 3, 4, 5, 6, 7, 8, 9, 10, 11, 12, 13, 14, 15, 16, 17] ?_
  refine oP (r := [3, 4, 5, 6, 7, 8, 9, 10, 11, 12, 13, 14, 15, 16, 17]) [0, 1, 2] (S' := [(0, .slice A_a0 a0.length c_a0), (1, iv a1), (2, iv a2), (6, pb b1), (11, .bool (decide (a1 < 0)))]) ?_
  by_cases hb3 : (decide (a1 < 0)) = true
  ·
   rw [if_pos hb3] at h1
   refine OpsT.keep [0, 1, 2, 6, 11] (S' := [(0, .slice A_a0 a0.length c_a0), (1, iv a1), (2, iv a2), (6, pb b1), (11, .bool true)]) (by (try simp only [hb3]); kernel_rfl) ?_
   refine oP (r := []) [3, 4, 5, 6, 7, 8, 9, 10, 11, 12, 13, 14, 15, 16, 17] (S' := [(0, .slice A_a0 a0.length c_a0), (1, iv a1), (2, iv a2), (6, pb b1), (26, .bool true)]) ?_
   refine oD ?_
   have e := someS h1
   subst e
   exact jT fun a ha => ⟨true, rfl, ha.keep [0, 1, 2, 6, 26] (by kernel_rfl), hI⟩
  ·
   rw [if_neg hb3] at h1
   have hb3 : (decide (a1 < 0)) = false := by simpa using hb3
   refine OpsT.keep [0, 1, 2, 6, 11] (S' := [(0, .slice A_a0 a0.length c_a0), (1, iv a1), (2, iv a2), (6, pb b1), (11, .bool false)]) (by (try simp only [hb3]); kernel_rfl) ?_
   refine oP (r := [8, 9, 10, 11, 12, 13, 14, 15, 16, 17]) [3, 4, 5, 6, 7] (S' := [(0, .slice A_a0 a0.length c_a0), (1, iv a1), (2, iv a2), (6, pb b1), (16, .bool (decide (a2 < a1)))]) ?_
   by_cases hb4 : (decide (a2 < a1)) = true
   ·
    rw [if_pos hb4] at h1
    refine OpsT.keep [0, 1, 2, 6, 16] (S' := [(0, .slice A_a0 a0.length c_a0), (1, iv a1), (2, iv a2), (6, pb b1), (16, .bool true)]) (by (try simp only [hb4]); kernel_rfl) ?_
    refine oP (r := []) [8, 9, 10, 11, 12, 13, 14, 15, 16, 17] (S' := [(0, .slice A_a0 a0.length c_a0), (1, iv a1), (2, iv a2), (6, pb b1), (26, .bool true)]) ?_
    refine oD ?_
    have e := someS h1
    subst e
    exact jT fun a ha => ⟨true, rfl, ha.keep [0, 1, 2, 6, 26] (by kernel_rfl), hI⟩
   ·
    rw [if_neg hb4] at h1
    have hb4 : (decide (a2 < a1)) = false := by simpa using hb4
    refine OpsT.keep [0, 1, 2, 6, 16] (S' := [(0, .slice A_a0 a0.length c_a0), (1, iv a1), (2, iv a2), (6, pb b1), (16, .bool false)]) (by (try simp only [hb4]); kernel_rfl) ?_
    refine oP (r := [14, 15, 16, 17]) [8, 9, 10, 11, 12, 13] (S' := [(0, .slice A_a0 a0.length c_a0), (1, iv a1), (2, iv a2), (6, pb b1), (22, .bool (decide (a2 > (a0.length : Int))))]) ?_
    by_cases hb5 : (decide (a2 > (a0.length : Int))) = true
    ·
     rw [if_pos hb5] at h1
     refine OpsT.keep [0, 1, 2, 6, 22] (S' := [(0, .slice A_a0 a0.length c_a0), (1, iv a1), (2, iv a2), (6, pb b1), (22, .bool true)]) (by (try simp only [hb5]); kernel_rfl) ?_
     refine oP (r := []) [14, 15, 16, 17] (S' := [(0, .slice A_a0 a0.length c_a0), (1, iv a1), (2, iv a2), (6, pb b1), (26, .bool true)]) ?_
     refine oD ?_
     have e := someS h1
     subst e
     exact jT fun a ha => ⟨true, rfl, ha.keep [0, 1, 2, 6, 26] (by kernel_rfl), hI⟩
    ·
     rw [if_neg hb5] at h1
     have hb5 : (decide (a2 > (a0.length : Int))) = false := by simpa using hb5
     refine OpsT.keep [0, 1, 2, 6, 22] (S' := [(0, .slice A_a0 a0.length c_a0), (1, iv a1), (2, iv a2), (6, pb b1), (22, .bool false)]) (by (try simp only [hb5]); kernel_rfl) ?_
     refine oP (r := []) [14, 15, 16, 17] (S' := [(0, .slice A_a0 a0.length c_a0), (1, iv a1), (2, iv a2), (6, pb b1), (26, .bool (decide ((a0.length : Int) > 400)))]) ?_
     refine oD ?_
     have e := someS h1
     subst e
     exact jT fun a ha => ⟨decide ((a0.length : Int) > 400), rfl, ha.keep [0, 1, 2, 6, 26] (by kernel_rfl), hI⟩
 ·
  rintro a w ⟨x2, rfl, ha, hI⟩
  try dsimp only at h0
  refine CodT.of ?_ ha
  by_cases hb6 : x2 = true
  ·
   rw [if_pos hb6] at h0
   refine cY (b := x2) hb6 ?_
   refine cQ (cR [0, 1, 2] ?_)
   refine oP (r := [1, 2]) [0] (S' := [(6, pb b1), (27, .agg q8b.toArray)]) ?_
   refine oC (dS (T := 26) (b := b1) (o := 0) (v := .agg q8b.toArray) (l := q8b) (vs := q8b) (L' := q8b) (by kernel_rfl) ty26 hI (by kernel_rfl) (by simp [cA_length]) (by rw [show List.length _ = 34 from (by simp [cA_length])]; kernel_rfl) (ones_app _ _ (ones_app _ _ (by kernel_rfl) (ones_cA _)) (by kernel_rfl)) (lset_all _ _ (Eq.trans (show List.length _ = 34 from (by simp [cA_length])) (Eq.symm (show List.length _ = 34 from (by simp [cA_length]))))) ?_)
   intro w hI
   refine oP (r := []) [2] (S' := [(6, pb b1), (7, .bool false)]) ?_
   refine oD (qT (jE (jR ?_)))
   have hL7 := (ldBN ty26 (l := q8b) (o := 0) (cs := q8b) (ent_refl _) (by simp [cA_length]) (whole _ _ (by simp [cA_length]))) w hI
   have hI := ownS_nil (α := ApiEvent) hI 50 c_ApiEvent 37
   have hI := hI.mono (pick2 _ _ _)
   have hI := hI.drop
   have e := someS h0
   subst e
   refine qK [6, 7] (S' := [(6, pb b1), (7, .bool false)]) ?_
   exact post_ret (v := .tuple #[.agg q8b.toArray, .bool false]) (fun a ha => jU (vs := [.agg q8b.toArray, .bool false]) (.cell (t := 6) (T := 26) (ad := ⟨b1, 0, none⟩) (by kernel_rfl) hL7 (.tmp (t := 7) (by kernel_rfl) .nil)) ha (by kernel_rfl)) ⟨none, 0, rfl, (by kernel_rfl), hI⟩
  ·
   rw [if_neg hb6] at h0
   refine cN (b := x2) (by simpa using hb6) ?_
   refine jS (qT (cQ (cR [0, 1, 2] ?_)))
   refine oP (r := [1, 2]) [0] (S' := [(0, .slice A_a0 a0.length c_a0), (1, iv a1), (2, iv a2), (6, pb b1), (28, .slice A_a0 a0.length c_a0)]) ?_
   obtain ⟨y9, hc8, h0⟩ := bindS h0
   try dsimp only at h0
   refine oC (jC (d := some 29) (n := 46) (vs := [.slice A_a0 a0.length c_a0]) (by kernel_rfl) en46 (c46 w0 w _ _ hI hT A_a0 c_a0 a0 hr_a0 _ hc8) ?_)
   rintro e w ⟨A10, cp11, rfl, hI⟩
   refine ⟨_, rfl, ?_⟩
   refine oP (r := []) [2] (S' := [(0, .slice A_a0 a0.length c_a0), (1, iv a1), (2, iv a2), (6, pb b1), (8, .slice A10 y9.length cp11)]) ?_
   refine oD (qT (cQ (cQ (cR [0, 1, 2] ?_))))
   refine oP (r := []) [0, 1, 2] (S' := [(0, .slice A_a0 a0.length c_a0), (1, iv a1), (2, iv a2), (6, pb b1), (8, .slice A10 y9.length cp11), (32, .bool ((y9.length : Int) == 0))]) ?_
   refine oD (qT ?_)
   by_cases hb12 : ((y9.length : Int) == 0) = true
   ·
    rw [if_pos hb12] at h0
    refine cY (b := (y9.length : Int) == 0) hb12 ?_
    refine cQ (cR [0, 1, 2] ?_)
    refine oP (r := [1, 2]) [0] (S' := [(6, pb b1), (33, .agg q8b.toArray)]) ?_
    have hI := hI.mono (pick2 _ _ _)
    refine oC (dS (T := 26) (b := b1) (o := 0) (v := .agg q8b.toArray) (l := q8b) (vs := q8b) (L' := q8b) (by kernel_rfl) ty26 hI (by kernel_rfl) (by simp [cA_length]) (by rw [show List.length _ = 34 from (by simp [cA_length])]; kernel_rfl) (ones_app _ _ (ones_app _ _ (by kernel_rfl) (ones_cA _)) (by kernel_rfl)) (lset_all _ _ (Eq.trans (show List.length _ = 34 from (by simp [cA_length])) (Eq.symm (show List.length _ = 34 from (by simp [cA_length]))))) ?_)
    intro w hI
    refine oP (r := []) [2] (S' := [(6, pb b1), (7, .bool false)]) ?_
    refine oD (qT (jE (jR ?_)))
    have hL13 := (ldBN ty26 (l := q8b) (o := 0) (cs := q8b) (ent_refl _) (by simp [cA_length]) (whole _ _ (by simp [cA_length]))) w hI
    have hI := ownS_nil (α := ApiEvent) hI 50 c_ApiEvent 37
    have hI := hI.mono (pick2 _ _ _)
    have hI := hI.drop
    have hI := hI.mono (pick2 _ _ _)
    have hI := hI.drop
    have e := someS h0
    subst e
    refine qK [6, 7] (S' := [(6, pb b1), (7, .bool false)]) ?_
    exact post_ret (v := .tuple #[.agg q8b.toArray, .bool false]) (fun a ha => jU (vs := [.agg q8b.toArray, .bool false]) (.cell (t := 6) (T := 26) (ad := ⟨b1, 0, none⟩) (by kernel_rfl) hL13 (.tmp (t := 7) (by kernel_rfl) .nil)) ha (by kernel_rfl)) ⟨none, 0, rfl, (by kernel_rfl), hI⟩
   ·
    rw [if_neg hb12] at h0
    refine cN (b := (y9.length : Int) == 0) (by simpa using hb12) ?_
    refine jS (qT (cQ ?_))
    refine CodT.drawI (n := 13) [11] (by kernel_rfl) (by kernel_rfl) hI ?_
    intro w hI
    refine gP 0 34 (iv a1) ?_
    refine gP 1 35 (.slice A10 y9.length cp11) ?_
    refine gP 2 36 (iv a1) ?_
    refine gP 5 39 (.slice A_a0 a0.length c_a0) ?_
    refine gP 6 40 (iv a1) ?_
    refine gP 7 41 (iv a2) ?_
    obtain ⟨hg14, h0⟩ := guardS h0
    obtain ⟨g15, hA16, hr17, hl18⟩ := ownS_get hI hg14.1 hg14.2
    refine gR (i := 3) 2 (Yl.indexSlice (d := 37) (T := 79) (cc := cp11) (k := .i64) (j := a1) (g := g15) (o := 0) (by kernel_rfl) Go.Proofs.Tryz.underlying79 ty23 hA16 hg14.1 hg14.2) hI ?_
    refine gR (i := 4) 2 (jL (d := 38) (T := 23) (v := .agg (q8c (gt y9 a1)).toArray) (by kernel_rfl) (ldRN ty23 (cs := cA (Value.int .u8) (gt y9 a1)) 0 (fun w hC => hr17 w0 w _ hC) ((cA_length _ _).trans ((cA_length _ _).symm.trans hl18)) (whole _ _ ((cA_length _ _).trans ((cA_length _ _).symm.trans hl18))))) hI ?_
    obtain ⟨hg19, h0⟩ := guardS h0
    have hf25 := hr_a0
    have hr22 := RdS.sub hf25 hg19
    obtain ⟨A20, hA23⟩ : ∃ x, subA A_a0 c_a0 a1 37 = x := ⟨_, rfl⟩
    obtain ⟨cp21, hc24⟩ : ∃ x, c_a0 - (a1 : Int).toNat = x := ⟨_, rfl⟩
    rw [hA23, hc24] at hr22
    refine gR (i := 8) 2 (Yl.sub (lo := (some (iv a1))) (hi := (some (iv a2))) (d := 42) (T := 24) (a := a1) (b := a2) (by kernel_rfl) Go.Proofs.Tryz.underlying24 ty50 (.inl ⟨_, rfl⟩) (.inl ⟨_, rfl⟩) hg19 hf25.1 (sub_length _ hg19) hA23 hc24) hI ?_
    obtain ⟨y27, hc26, h0⟩ := bindS h0
    try dsimp only at h0
    refine jO (i := 9) (by kernel_rfl) (jC (d := some 43) (n := 47) (vs := [.slice A20 ((sub a0 a1 a2).length) cp21]) (by kernel_rfl) en47 (c47 w0 w _ _ hI hT A20 cp21 (sub a0 a1 a2) hr22 _ hc26) ?_)
    rintro e w ⟨A28, cp29, rfl, hI⟩
    refine ⟨_, rfl, ?_⟩
    have hC := hI
    have hC := hC.drop
    refine ⟨fun _ _ => hC, ?_⟩
    refine jO (i := 10) (by kernel_rfl) (jY (Yl.buildB (d := 44) (T := 26) (ps := [(0, iv a1), (1, .agg (q8c (gt y9 a1)).toArray), (2, .slice A28 y27.length cp29)]) (cells := ((([iv a1] : LV) ++ (q8c (gt y9 a1)) ++ ([.slice A28 y27.length cp29] : LV))).toArray) (by kernel_rfl) ((built_all (places := [(0, 1), (1, 32), (33, 1)]) (lens := [1, 32, 1]) (zs := [([iv 0] : LV), cA (Value.int .u8) q8z, ([.slice none 0 0] : LV)]) (fun _ => by kernel_rfl) (by kernel_rfl) [(0, iv a1, ([iv a1] : LV)), (1, .agg (q8c (gt y9 a1)).toArray, cA (Value.int .u8) (gt y9 a1)), (2, .slice A28 y27.length cp29, ([.slice A28 y27.length cp29] : LV))] (List.forall_mem_cons.2 ⟨⟨rfl, rfl, rfl⟩, (List.forall_mem_cons.2 ⟨⟨rfl, congrArg some ((cA_length _ _).trans ((cA_length _ _).symm.trans hl18)).symm, congrArg (fun n => some (1, n)) ((cA_length _ _).trans ((cA_length _ _).symm.trans hl18)).symm⟩, (List.forall_mem_cons.2 ⟨⟨rfl, rfl, rfl⟩, (fun _ h => by cases h)⟩)⟩)⟩)).trans (by first | rfl | simp))) hI ?_)
    refine ⟨fun _ h => h, ?_⟩
    have hI := hI.mono (pick3 _ _ _ _)
    refine jO (i := 11) (by kernel_rfl) (dS (T := 26) (b := b1) (o := 0) (v := .agg ((([iv a1] : LV) ++ (q8c (gt y9 a1)) ++ ([.slice A28 y27.length cp29] : LV))).toArray) (l := q8b) (vs := (([iv a1] : LV) ++ (q8c (gt y9 a1)) ++ ([.slice A28 y27.length cp29] : LV))) (L' := (([iv a1] : LV) ++ (q8c (gt y9 a1)) ++ ([.slice A28 y27.length cp29] : LV))) (by kernel_rfl) ty26 hI (by kernel_rfl) (by simp [cA_length, ((cA_length _ _).symm.trans hl18)]) (by rw [show List.length _ = 34 from (by simp [cA_length])]; kernel_rfl) (ones_app _ _ (ones_app _ _ (by kernel_rfl) (ones_cA _)) (by kernel_rfl)) (lset_all _ _ (Eq.trans (show List.length _ = 34 from (by simp [cA_length, ((cA_length _ _).symm.trans hl18)])) (Eq.symm (show List.length _ = 34 from (by simp [cA_length]))))) ?_)
    intro w hI
    refine ⟨fun h => absurd h (by decide), ?_⟩
    refine gP 12 7 (.bool true) ?_
    refine jD (by kernel_rfl) ?_
    refine qT (jE ?_)
    have hL30 := (ldBN ty26 (l := (([iv a1] : LV) ++ (q8c (gt y9 a1)) ++ ([.slice A28 y27.length cp29] : LV))) (o := 0) (cs := (([iv a1] : LV) ++ (q8c (gt y9 a1)) ++ ([.slice A28 y27.length cp29] : LV))) (ent_refl _) (by simp [cA_length, ((cA_length _ _).symm.trans hl18)]) (whole _ _ (by simp [cA_length, ((cA_length _ _).symm.trans hl18)]))) w hI
    have hI := hI.drop
    have hI := hI.mono (pick2 _ _ _)
    have hI := hI.drop
    have e := someS h0
    subst e
    refine qK [6, 7] (S' := [(6, pb b1), (7, .bool true)]) ?_
    exact post_ret (v := .tuple #[.agg ((([iv a1] : LV) ++ (q8c (gt y9 a1)) ++ ([.slice A28 y27.length cp29] : LV))).toArray, .bool true]) (fun a ha => jU (vs := [.agg ((([iv a1] : LV) ++ (q8c (gt y9 a1)) ++ ([.slice A28 y27.length cp29] : LV))).toArray, .bool true]) (.cell (t := 6) (T := 26) (ad := ⟨b1, 0, none⟩) (by kernel_rfl) hL30 (.tmp (t := 7) (by kernel_rfl) .nil)) ha (by kernel_rfl)) ⟨A28, cp29, rfl, ((cA_length _ _).symm.trans hl18), hI⟩
/-- (*strings.Builder).copyCheck -/
theorem c50 (w0 w : World) (Z : Hp) (A : HP)  (hT : Tabs Z) (b_a0 : Nat) (uba : Bool) (uc : Option Addr) (uca : Nat) (ubb : (List Int)) (hI : Inv w0 Z w (star (pt b_a0 (.cells ([selfP b_a0 uba, .slice uc ubb.length uca] : LV).toArray 55 (0, 0))) (star (ownS 5 (cI .u8) 1 uc uca ubb) A))) (r : (Bool × (List Int))) (h0 : strings_Builder_copyCheck uba ubb = some r) :
  Calls prog 50 #[pb b_a0] w (fun e w' => ∃ (A1 : Option Addr) (c1 : Nat), e = .returned (.tuple #[]) ∧ Inv w0 Z w' (star (pt b_a0 (.cells ([selfP b_a0 r.1, .slice A1 r.2.length c1] : LV).toArray 55 (0, 0))) (star (ownS 5 (cI .u8) 1 A1 c1 r.2) A))) := by
 have e4 := calls_intro (R := (fun e w' => ∃ (A1 : Option Addr) (c1 : Nat), e = .returned (.tuple #[]) ∧ Inv w0 Z w' (star (pt b_a0 (.cells ([selfP b_a0 r.1, .slice A1 r.2.length c1] : LV).toArray 55 (0, 0))) (star (ownS 5 (cI .u8) 1 A1 c1 r.2) A)))) (w := w) (args := [pb b_a0]) (fn := Go.Proofs.Tryz.f50) 20 Go.Proofs.Tryz.func50 (by rfl) Go.Proofs.Tryz.ntmps50 (by kernel_rfl)
 refine e4 ?_
 clear e4
 unfold strings_Builder_copyCheck at h0
 refine cQ (cR [0, 1, 2, 3, 4] ?_)
 refine oP (r := [3, 4]) [0, 1, 2] (S' := [(0, pb b_a0), (4, pb b_a0)]) ?_
 refine oC (jY (jL (d := 5) (T := 53) (v := selfP b_a0 uba) (by kernel_rfl) (ldB ty53 (l := ([selfP b_a0 uba, .slice uc ubb.length uca] : LV)) (o := 0) (v := selfP b_a0 uba) (ent_refl _) (by kernel_rfl))) hI ?_)
 refine oC (jY (Yl.eqlSelf (d := 6) (T := 53) (b := b_a0) (t := uba) (by kernel_rfl) Go.Proofs.Tryz.underlying53 (by kernel_rfl)) hI ?_)
 refine oD (qT ?_)
 by_cases hb1 : (!uba) = true
 ·
  rw [if_pos hb1] at h0
  refine cY (b := !uba) hb1 ?_
  refine cR [0, 1, 2, 3, 4, 5, 6, 7] ?_
  refine oP (r := [2, 3, 4, 5, 6, 7]) [0, 1] (S' := [(7, pb b_a0), (8, pb b_a0)]) ?_
  refine oC (jY (Yl.toUns (d := 9) (src := 53) (dst := 105) (b := b_a0) (l := ([selfP b_a0 uba, .slice uc ubb.length uca] : LV)) (by kernel_rfl) Go.Proofs.Tryz.underlying53 Go.Proofs.Tryz.underlying105 ty55 (by kernel_rfl) (by kernel_rfl) (fun w hC => (hC.mono (ent_refl _)).block)) hI ?_)
  refine oC (Does.ext (d := some 10) (n := 71) (vs := [pb b_a0]) (by kernel_rfl) (ext71 _ _) ?_)
  refine oC (jY (Yl.fromUns (d := 11) (src := 105) (dst := 53) (b := b_a0) (l := ([selfP b_a0 uba, .slice uc ubb.length uca] : LV)) 2 (by kernel_rfl) Go.Proofs.Tryz.underlying105 Go.Proofs.Tryz.underlying53 ty55 (by kernel_rfl) (by kernel_rfl) (fun w hC => (hC.mono (ent_refl _)).block)) hI ?_)
  refine oP (r := [7]) [5, 6] (S' := [(11, pb b_a0), (13, pb b_a0)]) ?_
  refine oC (dS (T := 53) (b := b_a0) (o := 0) (v := pb b_a0) (l := ([selfP b_a0 uba, .slice uc ubb.length uca] : LV)) (vs := ([pb b_a0] : LV)) (L' := ([selfP b_a0 true, .slice uc ubb.length uca] : LV)) (by kernel_rfl) ty53 hI (by kernel_rfl) (by kernel_rfl) (by kernel_rfl) (by kernel_rfl) (by kernel_rfl) ?_)
  intro w hI
  refine oD ?_
  have e := someS h0
  subst e
  refine qK [] (S' := []) ?_
  exact post_normal (v := .tuple #[]) (fun a ha => jU (vs := []) .nil ha (by kernel_rfl)) ⟨uc, uca, rfl, hI⟩
 ·
  rw [if_neg hb1] at h0
  refine cN (b := !uba) (by simpa using hb1) ?_
  refine cQ (cR [0, 1, 2, 3, 4, 5] ?_)
  refine oP (r := [3, 4, 5]) [0, 1, 2] (S' := [(0, pb b_a0), (16, pb b_a0)]) ?_
  refine oC (jY (jL (d := 17) (T := 53) (v := selfP b_a0 uba) (by kernel_rfl) (ldB ty53 (l := ([selfP b_a0 uba, .slice uc ubb.length uca] : LV)) (o := 0) (v := selfP b_a0 uba) (ent_refl _) (by kernel_rfl))) hI ?_)
  refine oP (r := [5]) [4] (S' := [(17, selfP b_a0 uba), (18, pb b_a0)]) ?_
  refine oC (jY (Yl.neqSelf (d := 19) (T := 53) (b := b_a0) (t := uba) (by kernel_rfl) Go.Proofs.Tryz.underlying53 ty55 (by kernel_rfl)) hI ?_)
  refine oD (qT ?_)
  refine cN (b := !uba) (by simpa using hb1) ?_
  refine jS ?_
  have e := someS h0
  subst e
  refine qK [] (S' := []) ?_
  exact post_normal (v := .tuple #[]) (fun a ha => jU (vs := []) .nil ha (by kernel_rfl)) ⟨uc, uca, rfl, hI⟩
/-- (*strings.Builder).WriteString -/
theorem c21 (w0 w : World) (Z : Hp) (A : HP)  (hT : Tabs Z) (b_a0 : Nat) (uba : Bool) (uc : Option Addr) (uca : Nat) (ubb : (List Int)) (a1 : ByteArray) (hI : Inv w0 Z w (star (pt b_a0 (.cells ([selfP b_a0 uba, .slice uc ubb.length uca] : LV).toArray 55 (0, 0))) (star (ownS 5 (cI .u8) 1 uc uca ubb) A))) (r : (Int × Dyn57 × Bool × (List Int))) (h0 : strings_Builder_WriteString uba ubb a1 = some r) :
  Calls prog 21 #[pb b_a0, .string a1] w (fun e w' => ∃ (A1 : Option Addr) (c1 : Nat), e = .returned (.tuple #[iv r.1, dynV57 r.2.1]) ∧ Inv w0 Z w' (star (pt b_a0 (.cells ([selfP b_a0 r.2.2.1, .slice A1 r.2.2.2.length c1] : LV).toArray 55 (0, 0))) (star (ownS 5 (cI .u8) 1 A1 c1 r.2.2.2) A))) := by
 have e4 := calls_intro (R := (fun e w' => ∃ (A1 : Option Addr) (c1 : Nat), e = .returned (.tuple #[iv r.1, dynV57 r.2.1]) ∧ Inv w0 Z w' (star (pt b_a0 (.cells ([selfP b_a0 r.2.2.1, .slice A1 r.2.2.2.length c1] : LV).toArray 55 (0, 0))) (star (ownS 5 (cI .u8) 1 A1 c1 r.2.2.2) A)))) (w := w) (args := [pb b_a0, .string a1]) (fn := Go.Proofs.Tryz.f21) 19 Go.Proofs.Tryz.func21 (by rfl) Go.Proofs.Tryz.ntmps21 (by kernel_rfl)
 refine e4 ?_
 clear e4
 unfold strings_Builder_WriteString at h0
 refine cQ (cR [0, 1] ?_)
 refine oP (r := []) [0, 1] (S' := [(0, pb b_a0), (1, .string a1)]) ?_
 refine oD (qT (cQ (cR [0, 1] ?_)))
 refine oP (r := [1]) [0] (S' := [(0, pb b_a0), (1, .string a1), (6, pb b_a0)]) ?_
 have hI := hI.mono (pick2 _ _ _)
 have hI := hI.mono (pick2 _ _ _)
 obtain ⟨⟨y2, y3⟩, hc1, h0⟩ := bindS h0
 try dsimp only at h0
 refine oC (jC (d := some 7) (n := 50) (vs := [pb b_a0]) (by kernel_rfl) en50 (c50 w0 w _ _ hT b_a0 uba uc uca ubb hI _ hc1) ?_)
 rintro e w ⟨A4, cp5, rfl, hI⟩
 refine ⟨_, rfl, ?_⟩
 refine oD (qT (cQ (cR [0, 1, 2, 3, 4, 5, 6, 7, 8, 9] ?_)))
 refine oP (r := [4, 5, 6, 7, 8, 9]) [0, 1, 2, 3] (S' := [(1, .string a1), (8, pb b_a0), (11, .pointer (some ⟨b_a0, 1, none⟩))]) ?_
 refine oC (jY (jL (d := 12) (T := 52) (v := .slice A4 y3.length cp5) (by kernel_rfl) (ldB ty52 (l := ([selfP b_a0 y2, .slice A4 y3.length cp5] : LV)) (o := 1) (v := .slice A4 y3.length cp5) (ent_refl _) (by kernel_rfl))) hI ?_)
 refine oP (r := [6, 7, 8, 9]) [5] (S' := [(1, .string a1), (8, pb b_a0), (12, .slice A4 y3.length cp5), (13, .string a1)]) ?_
 obtain ⟨hg6, h0⟩ := guardS h0
 have hI := hI.mono (pick2 _ _ _)
 refine oC (Does.append (d := 14) (t := 52) (tx := 9) (ty := 52) (ys := y3) (zs := byts a1) (x := .string a1) (by kernel_rfl) Go.Proofs.Tryz.underlying52 ty5 (by kernel_rfl) hI (src_str Go.Proofs.Tryz.underlying9 _) (fun _ _ => rfl) (by unfold LIM at hg6; omega) hg6 ?_)
 intro A7 cp8 w hI
 refine oP (r := [9]) [7, 8] (S' := [(1, .string a1), (14, .slice A7 ((y3 ++ (byts a1)).length) cp8), (16, .pointer (some ⟨b_a0, 1, none⟩))]) ?_
 have hI := hI.mono (pick2 _ _ _)
 refine oC (dS (T := 52) (b := b_a0) (o := 1) (v := .slice A7 ((y3 ++ (byts a1)).length) cp8) (l := ([selfP b_a0 y2, .slice A4 y3.length cp5] : LV)) (vs := ([.slice A7 ((y3 ++ (byts a1)).length) cp8] : LV)) (L' := ([selfP b_a0 y2, .slice A7 ((y3 ++ (byts a1)).length) cp8] : LV)) (by kernel_rfl) ty52 hI (by kernel_rfl) (by kernel_rfl) (by kernel_rfl) (by kernel_rfl) (by kernel_rfl) ?_)
 intro w hI
 refine oD (qT (cQ (cR [0, 1, 2, 3] ?_)))
 refine oP (r := []) [0, 1, 2, 3] (S' := [(4, iv (a1.size : Int)), (5, .nilIface)]) ?_
 refine oD (qT (jE ?_))
 have e := someS h0
 subst e
 refine qK [4, 5] (S' := [(4, iv (a1.size : Int)), (5, .nilIface)]) ?_
 exact post_ret (v := .tuple #[iv (a1.size : Int), .nilIface]) (fun a ha => jU (vs := [iv (a1.size : Int), .nilIface]) (.tmp (t := 4) (by kernel_rfl) (.tmp (t := 5) (by kernel_rfl) .nil)) ha (by kernel_rfl)) ⟨A7, cp8, rfl, hI⟩
/-- (*strings.Builder).String -/
theorem c26 (w0 w : World) (Z : Hp) (A : HP)  (hT : Tabs Z) (b_a0 : Nat) (uba : Bool) (uc : Option Addr) (uca : Nat) (ubb : (List Int)) (hI : Inv w0 Z w (star (pt b_a0 (.cells ([selfP b_a0 uba, .slice uc ubb.length uca] : LV).toArray 55 (0, 0))) (star (ownS 5 (cI .u8) 1 uc uca ubb) A))) (r : (ByteArray × Bool × (List Int))) (h0 : strings_Builder_String uba ubb = some r) :
  Calls prog 26 #[pb b_a0] w (fun e w' => ∃ (A1 : Option Addr) (c1 : Nat) (Z' : Hp), Z.le Z' ∧ e = .returned (.string r.1) ∧ RdS Z' (cI .u8) 1 A1 c1 r.2.2 ∧ Inv w0 Z' w' (star (pt b_a0 (.cells ([selfP b_a0 r.2.1, .slice A1 r.2.2.length c1] : LV).toArray 55 (0, 0))) A)) := by
 have e4 := calls_intro (R := (fun e w' => ∃ (A1 : Option Addr) (c1 : Nat) (Z' : Hp), Z.le Z' ∧ e = .returned (.string r.1) ∧ RdS Z' (cI .u8) 1 A1 c1 r.2.2 ∧ Inv w0 Z' w' (star (pt b_a0 (.cells ([selfP b_a0 r.2.1, .slice A1 r.2.2.length c1] : LV).toArray 55 (0, 0))) A))) (w := w) (args := [pb b_a0]) (fn := Go.Proofs.Tryz.f26) 14 Go.Proofs.Tryz.func26 (by rfl) Go.Proofs.Tryz.ntmps26 (by kernel_rfl)
 refine e4 ?_
 clear e4
 unfold strings_Builder_String at h0
 refine cQ (cR [0] ?_)
 refine oP (r := []) [0] (S' := [(0, pb b_a0)]) ?_
 refine oD (qT (cQ ?_))
 refine CodT.drawI (n := 12) [10] (by kernel_rfl) (by kernel_rfl) hI ?_
 intro w hI
 refine gP 0 3 (pb b_a0) ?_
 refine gP 1 4 (pb b_a0) ?_
 refine gP 2 5 (.pointer (some ⟨b_a0, 1, none⟩)) ?_
 refine gP 5 8 (pb b_a0) ?_
 refine gP 6 9 (pb b_a0) ?_
 refine gP 7 10 (.pointer (some ⟨b_a0, 1, none⟩)) ?_
 refine gR (i := 3) 3 (jL (d := 6) (T := 52) (v := .slice uc ubb.length uca) (by kernel_rfl) (ldB ty52 (l := ([selfP b_a0 uba, .slice uc ubb.length uca] : LV)) (o := 1) (v := .slice uc ubb.length uca) (ent_refl _) (by kernel_rfl))) hI ?_
 refine gR (i := 8) 3 (jL (d := 11) (T := 52) (v := .slice uc ubb.length uca) (by kernel_rfl) (ldB ty52 (l := ([selfP b_a0 uba, .slice uc ubb.length uca] : LV)) (o := 1) (v := .slice uc ubb.length uca) (ent_refl _) (by kernel_rfl))) hI ?_
 refine gP 9 12 (iv (ubb.length : Int)) ?_
 have hI := hI.mono (pick2 _ _ _)
 refine jO (i := 4) (by kernel_rfl) (Does.sliceData (d := 7) (t := 52) (ty := 89) (ys := ubb) (by kernel_rfl) Go.Proofs.Tryz.underlying89 hI ?_)
 intro q1 w hq2 hI
 have hC := hI
 have hC := hC.mono (pick2 _ _ _)
 refine ⟨fun _ _ => hC, ?_⟩
 obtain ⟨hg3, h0⟩ := guardS h0
 refine jO (i := 10) (by kernel_rfl) (Does.unsafeStr (e := 0) (d := 13) (t := 89) (it := 3) (ty := 9) (xs := ubb) (by kernel_rfl) Go.Proofs.Tryz.underlying89 (by kernel_rfl) hq2 (bytesOk_spec hg3) hI ?_)
 intro Z4 w hle5 hr6 hI
 refine ⟨fun h => absurd h (by decide), ?_⟩
 refine gP 11 2 (.string (strOfNums ubb)) ?_
 refine jD (by kernel_rfl) ?_
 refine qT (jE ?_)
 have e := someS h0
 subst e
 refine qK [2] (S' := [(2, .string (strOfNums ubb))]) ?_
 exact post_ret (v := .string (strOfNums ubb)) (fun a ha => jU (vs := [.string (strOfNums ubb)]) (.tmp (t := 2) (by kernel_rfl) .nil) ha (by kernel_rfl)) ⟨uc, uca, Z4, hle5, rfl, hr6, hI⟩
/-- cenotaph/bundle.Put -/
theorem c8 (w0 w : World) (Z : Hp) (A : HP) (hI : Inv w0 Z w A) (hT : Tabs Z) (uf : Int) (ug : (List Int)) (ucc : ug.length = 32) (ua : Option Addr) (ubi : Nat) (ue : (List ApiEvent)) (uce : RdS Z c_ApiEvent 37 ua ubi ue) (r : (ByteArray × Bool)) (h0 : bundle_Put uf ug ue = some r) :
  Calls prog 8 #[.agg ((([iv uf] : LV) ++ (q8c ug) ++ ([.slice ua ue.length ubi] : LV))).toArray] w (fun e w' => e = .returned (.tuple #[.string r.1, .bool r.2]) ∧ Inv w0 Z w' A) := by
 have e4 := calls_intro (R := (fun e w' => e = .returned (.tuple #[.string r.1, .bool r.2]) ∧ Inv w0 Z w' A)) (w := w) (args := [.agg ((([iv uf] : LV) ++ (q8c ug) ++ ([.slice ua ue.length ubi] : LV))).toArray]) (fn := Go.Proofs.Tryz.f8) 54 Go.Proofs.Tryz.func8 (by rfl) Go.Proofs.Tryz.ntmps8 (by kernel_rfl)
 refine e4 ?_
 clear e4
 unfold bundle_Put at h0
 refine cQ (cR [0, 1, 2] ?_)
 refine oC (Does.boxL (d := 1) (T := 26) (v := .agg ((([iv uf] : LV) ++ (q8c ug) ++ ([.slice ua ue.length ubi] : LV))).toArray) ((([iv uf] : LV) ++ (q8c ug) ++ ([.slice ua ue.length ubi] : LV))) (by kernel_rfl) hI (by kernel_rfl) ?_)
 intro b1 w hI
 refine oP (r := []) [1, 2] (S' := [(1, pb b1)]) ?_
 refine oD (qT (cQ ?_))
 obtain ⟨r1, h1, h0⟩ := bindS h0
 refine jM (fun a w => ∃ (x2 : Bool), x2 = r1 ∧ Fr 54 [(1, pb b1), (20, .bool x2)] a ∧ Inv w0 Z w (star (pt b1 (.cells ((([iv uf] : LV) ++ (q8c ug) ++ ([.slice ua ue.length ubi] : LV))).toArray 26 (0, 0))) A)) ?_ ?_
 ·
  refine cR [0, 1, 2, 3, 4, 5, 6, 7, 8, 9, 10, 11] ?_
  refine oP (r := [1, 2, 3, 4, 5, 6, 7, 8, 9, 10, 11]) [0] (S' := [(1, pb b1), (9, pb b1)]) ?_
  refine oC (jY (jL (d := 10) (T := 3) (v := iv uf) (by kernel_rfl) (ldB ty3 (l := (([iv uf] : LV) ++ (q8c ug) ++ ([.slice ua ue.length ubi] : LV))) (o := 0) (v := iv uf) (ent_refl _) (by kernel_rfl))) hI ?_)
  refine oP (r := [4, 5, 6, 7, 8, 9, 10, 11]) [2, 3] (S' := [(1, pb b1), (12, .bool (decide (uf < 0)))]) ?_
  by_cases hb3 : (decide (uf < 0)) = true
  ·
   rw [if_pos hb3] at h1
   refine OpsT.keep [1, 12] (S' := [(1, pb b1), (12, .bool true)]) (by (try simp only [hb3]); kernel_rfl) ?_
   refine oP (r := []) [4, 5, 6, 7, 8, 9, 10, 11] (S' := [(1, pb b1), (20, .bool true)]) ?_
   refine oD ?_
   have e := someS h1
   subst e
   exact jT fun a ha => ⟨true, rfl, ha.keep [1, 20] (by kernel_rfl), hI⟩
  ·
   rw [if_neg hb3] at h1
   have hb3 : (decide (uf < 0)) = false := by simpa using hb3
   refine OpsT.keep [1, 12] (S' := [(1, pb b1), (12, .bool false)]) (by (try simp only [hb3]); kernel_rfl) ?_
   refine oP (r := [5, 6, 7, 8, 9, 10, 11]) [4] (S' := [(1, pb b1), (12, .bool false), (13, pb b1)]) ?_
   refine oC (jY (jL (d := 14) (T := 3) (v := iv uf) (by kernel_rfl) (ldB ty3 (l := (([iv uf] : LV) ++ (q8c ug) ++ ([.slice ua ue.length ubi] : LV))) (o := 0) (v := iv uf) (ent_refl _) (by kernel_rfl))) hI ?_)
   refine oP (r := [7, 8, 9, 10, 11]) [6] (S' := [(1, pb b1), (12, .bool false), (14, iv uf), (15, .pointer (some ⟨b1, 33, none⟩))]) ?_
   refine oC (jY (jL (d := 16) (T := 24) (v := .slice ua ue.length ubi) (by kernel_rfl) (ldB ty24 (l := (([iv uf] : LV) ++ (q8c ug) ++ ([.slice ua ue.length ubi] : LV))) (o := 33) (v := .slice ua ue.length ubi) (ent_refl _) (seg_get [([iv uf] : LV), cA (Value.int .u8) ug, ([.slice ua ue.length ubi] : LV)] 2 (by simp [cA_length, ucc]) (by simp [cA_length, ucc]) rfl))) hI ?_)
   refine oP (r := []) [8, 9, 10, 11] (S' := [(1, pb b1), (20, .bool (decide ((if (ue.length : Int) > uf then (ue.length : Int) else uf) > 400)))]) ?_
   refine oD ?_
   have e := someS h1
   subst e
   exact jT fun a ha => ⟨decide ((if (ue.length : Int) > uf then (ue.length : Int) else uf) > 400), rfl, ha.keep [1, 20] (by kernel_rfl), hI⟩
 ·
  rintro a w ⟨x2, rfl, ha, hI⟩
  try dsimp only at h0
  refine CodT.of ?_ ha
  by_cases hb4 : x2 = true
  ·
   rw [if_pos hb4] at h0
   refine cY (b := x2) hb4 ?_
   refine cQ (cR [0, 1] ?_)
   refine oP (r := []) [0, 1] (S' := [(2, .string q8e), (3, .bool false)]) ?_
   refine oD (qT (jE (jR ?_)))
   have hI := hI.drop
   have e := someS h0
   subst e
   refine qK [2, 3] (S' := [(2, .string q8e), (3, .bool false)]) ?_
   exact post_ret (v := .tuple #[.string q8e, .bool false]) (fun a ha => jU (vs := [.string q8e, .bool false]) (.tmp (t := 2) (by kernel_rfl) (.tmp (t := 3) (by kernel_rfl) .nil)) ha (by kernel_rfl)) ⟨rfl, hI⟩
  ·
   rw [if_neg hb4] at h0
   refine cN (b := x2) (by simpa using hb4) ?_
   refine jS (qT (cQ (cR [0] ?_)))
   refine oC (jA (d := 4) (T := 55) [selfP 0 false, .slice none 0 0] (by kernel_rfl) ty55 hI (by kernel_rfl) ?_)
   intro b5 w hI
   replace hI := hI.eqA (A' := (star (pt b5 (.cells ([selfP b5 false, .slice none 0 0] : LV).toArray 55 (0, 0))) (star (pt b1 (.cells ((([iv uf] : LV) ++ (q8c ug) ++ ([.slice ua ue.length ubi] : LV))).toArray 26 (0, 0))) A))) rfl
   refine oD (qT (cQ ?_))
   refine CodT.drawI (n := 14) [13] (by kernel_rfl) (by kernel_rfl) hI ?_
   intro w hI
   refine gP 0 21 (pb b1) ?_
   refine gP 4 25 (.pointer (some ⟨b1, 1, none⟩)) ?_
   refine gP 8 29 (.pointer (some ⟨b1, 33, none⟩)) ?_
   refine gR (i := 1) 5 (jL (d := 22) (T := 3) (v := iv uf) (by kernel_rfl) (ldB ty3 (l := (([iv uf] : LV) ++ (q8c ug) ++ ([.slice ua ue.length ubi] : LV))) (o := 0) (v := iv uf) (pick2 _ _ _) (by kernel_rfl))) hI ?_
   refine gR (i := 5) 4 (jL (d := 26) (T := 23) (v := .agg (q8c ug).toArray) (by kernel_rfl) (ldBN ty23 (l := (([iv uf] : LV) ++ (q8c ug) ++ ([.slice ua ue.length ubi] : LV))) (o := 1) (cs := cA (Value.int .u8) ug) (pick2 _ _ _) ((cA_length _ _).trans ucc) (seg_take [([iv uf] : LV), cA (Value.int .u8) ug, ([.slice ua ue.length ubi] : LV)] 1 1 (by simp [cA_length, ucc]) (by simp [cA_length, ucc]) (by simp [cA_length, ucc]) (by simp [cA_length, ucc])))) hI ?_
   refine gR (i := 9) 4 (jL (d := 30) (T := 24) (v := .slice ua ue.length ubi) (by kernel_rfl) (ldB ty24 (l := (([iv uf] : LV) ++ (q8c ug) ++ ([.slice ua ue.length ubi] : LV))) (o := 33) (v := .slice ua ue.length ubi) (pick2 _ _ _) (seg_get [([iv uf] : LV), cA (Value.int .u8) ug, ([.slice ua ue.length ubi] : LV)] 2 (by simp [cA_length, ucc]) (by simp [cA_length, ucc]) rfl))) hI ?_
   refine gP 10 31 (iv (ue.length : Int)) ?_
   obtain ⟨y7, hc6, h0⟩ := bindS h0
   try dsimp only at h0
   refine jO (i := 2) (by kernel_rfl) (jC (d := some 23) (n := 22) (vs := [iv uf]) (by kernel_rfl) en22 (c22 w0 w _ _ hI hT uf _ hc6) ?_)
   rintro e w ⟨rfl, hI⟩
   refine ⟨_, rfl, ?_⟩
   refine ⟨fun _ _ => hI, ?_⟩
   obtain ⟨hg8, h0⟩ := guardS h0
   refine gR (i := 3) 4 (Yl.cat (d := 24) (T := 9) (x := (⟨#[67, 69, 78, 79]⟩ : ByteArray)) (y := y7) (by kernel_rfl) hg8) hI ?_
   obtain ⟨y10, hc9, h0⟩ := bindS h0
   try dsimp only at h0
   refine jO (i := 6) (by kernel_rfl) (jC (d := some 27) (n := 23) (vs := [.agg (q8c ug).toArray]) (by kernel_rfl) en23 (c23 w0 w _ _ hI hT ug ucc _ hc9) ?_)
   rintro e w ⟨rfl, hI⟩
   refine ⟨_, rfl, ?_⟩
   refine ⟨fun _ _ => hI, ?_⟩
   obtain ⟨hg11, h0⟩ := guardS h0
   refine gR (i := 7) 3 (Yl.cat (d := 28) (T := 9) (x := (⟨#[67, 69, 78, 79]⟩ : ByteArray) ++ y7) (y := y10) (by kernel_rfl) hg11) hI ?_
   obtain ⟨y13, hc12, h0⟩ := bindS h0
   try dsimp only at h0
   refine jO (i := 11) (by kernel_rfl) (jC (d := some 32) (n := 22) (vs := [iv (ue.length : Int)]) (by kernel_rfl) en22 (c22 w0 w _ _ hI hT (ue.length : Int) _ hc12) ?_)
   rintro e w ⟨rfl, hI⟩
   refine ⟨_, rfl, ?_⟩
   refine ⟨fun _ _ => hI, ?_⟩
   obtain ⟨hg14, h0⟩ := guardS h0
   refine gR (i := 12) 2 (Yl.cat (d := 33) (T := 9) (x := ((⟨#[67, 69, 78, 79]⟩ : ByteArray) ++ y7) ++ y10) (y := y13) (by kernel_rfl) hg14) hI ?_
   have hI := ownS_nil (α := Int) hI 5 (cI .u8) 1
   have hI := hI.mono (pick2 _ _ _)
   obtain ⟨⟨y16, y17, y18, y19⟩, hc15, h0⟩ := bindS h0
   try dsimp only at h0
   refine jO (i := 13) (by kernel_rfl) (jC (d := some 34) (n := 21) (vs := [pb b5, .string ((((⟨#[67, 69, 78, 79]⟩ : ByteArray) ++ y7) ++ y10) ++ y13)]) (by kernel_rfl) en21 (c21 w0 w _ _ hT b5 false none 0 ([] : List Int) ((((⟨#[67, 69, 78, 79]⟩ : ByteArray) ++ y7) ++ y10) ++ y13) hI _ hc15) ?_)
   rintro e w ⟨A20, cp21, rfl, hI⟩
   refine ⟨_, rfl, ?_⟩
   refine ⟨fun h => absurd h (by decide), ?_⟩
   refine jD (by kernel_rfl) ?_
   refine qT (cQ (cQ (cR [0, 1, 2, 3] ?_)))
   refine oP (r := [1, 2, 3]) [0] (S' := [(4, pb b5), (35, .pointer (some ⟨b1, 33, none⟩))]) ?_
   refine oC (jY (jL (d := 36) (T := 24) (v := .slice ua ue.length ubi) (by kernel_rfl) (ldB ty24 (l := (([iv uf] : LV) ++ (q8c ug) ++ ([.slice ua ue.length ubi] : LV))) (o := 33) (v := .slice ua ue.length ubi) (pick3 _ _ _ _) (seg_get [([iv uf] : LV), cA (Value.int .u8) ug, ([.slice ua ue.length ubi] : LV)] 2 (by simp [cA_length, ucc]) (by simp [cA_length, ucc]) rfl))) hI ?_)
   refine oP (r := []) [2, 3] (S' := [(4, pb b5), (36, .slice ua ue.length ubi), (37, iv (ue.length : Int)), (38, iv 0)]) ?_
   refine oD (qT ?_)
   obtain ⟨r1, h1, h0⟩ := bindS h0
   refine CodT.meet1 (fun a w => ∃ (x22 : Bool) (x23 : (List Int)) (A24 : Option Addr) (cp25 : Nat), .inr (x22, x23) = r1 ∧ Fr 54 [(4, pb b5)] a ∧ Inv w0 Z w (star (ownS 5 (cI .u8) 1 A24 cp25 x23) (star (pt b5 (.cells ([selfP b5 x22, .slice A24 x23.length cp25] : LV).toArray 55 (0, 0))) A))) ?_ ?_
   ·
    refine jB ?_
    have hI := hI.mono (pick3 _ _ _ _)
    have hI := hI.drop
    have hI := hI.mono (pick2 _ _ _)
    refine (fun a ha => wp_loopN (fun k a w => ∃ (x26 : Int) (x27 : Bool) (x28 : (List Int)) (A29 : Option Addr) (cp30 : Nat), bundle_Put.l0 ue k x26 x27 x28 = some r1 ∧ Fr 54 [(4, pb b5), (36, .slice ua ue.length ubi), (37, iv (ue.length : Int)), (38, iv x26)] a ∧ Inv w0 Z w (star (ownS 5 (cI .u8) 1 A29 cp30 x28) (star (pt b5 (.cells ([selfP b5 x27, .slice A29 x28.length cp30] : LV).toArray 55 (0, 0))) A))) ?_ FU a w ⟨0, y18, y19, A20, cp21, h1, ha.keep [4, 36, 37, 38] (by kernel_rfl), hI⟩)
    clear h1 hI
    rintro k a w ⟨x26, x27, x28, A29, cp30, h1, ha, hI⟩
    rcases k with _ | k
    ·
     cases h1
    simp only [bundle_Put.l0] at h1
    refine CodT.of ?_ ha
    refine cQ (cR [0] ?_)
    refine oP (r := []) [0] (S' := [(4, pb b5), (36, .slice ua ue.length ubi), (37, iv (ue.length : Int)), (38, iv x26), (39, .bool (decide (x26 < (ue.length : Int))))]) ?_
    refine oD (qT (cQ ?_))
    by_cases hb31 : (decide (x26 < (ue.length : Int))) = true
    ·
     rw [if_pos hb31] at h1
     refine cY (b := decide (x26 < (ue.length : Int))) hb31 ?_
     refine jS (qT (cQ (jB (cQ (cR [0, 1, 2, 3] ?_)))))
     obtain ⟨hg32, h1⟩ := guardS h1
     obtain ⟨g33, o37, hA34, hr35, hl36⟩ := RdS.get uce hg32.1 hg32.2
     refine oC (jY (Yl.indexSlice (d := 40) (T := 24) (cc := ubi) (k := .i64) (j := x26) (g := g33) (o := o37) (by kernel_rfl) Go.Proofs.Tryz.underlying24 ty50 hA34 hg32.1 hg32.2) hI ?_)
     refine oC (jY (jL (d := 41) (T := 50) (v := .agg (c_ApiEvent (gt ue x26)).toArray) (by kernel_rfl) (ldRN ty50 (cs := c_ApiEvent (gt ue x26)) 0 (fun w hC => hr35 w0 w _ hC) hl36 (whole _ _ hl36))) hI ?_)
     refine oC (jA (d := 6) (T := 50) (c_ApiEvent (ApiEvent.mk 0 0 q8e 0 0 q8z)) (by kernel_rfl) ty50 hI (by kernel_rfl) ?_)
     intro b38 w hI
     refine oC (dS (T := 50) (b := b38) (o := 0) (v := .agg (c_ApiEvent (gt ue x26)).toArray) (l := c_ApiEvent (ApiEvent.mk 0 0 q8e 0 0 q8z)) (vs := c_ApiEvent (gt ue x26)) (L' := c_ApiEvent (gt ue x26)) (by kernel_rfl) ty50 hI (by kernel_rfl) (len_ApiEvent _ (inv_ApiEvent _ hl36)) (by rw [(len_ApiEvent _ (by kernel_rfl))]; kernel_rfl) (ones_app _ _ (by kernel_rfl) (ones_cA _)) (lset_all _ _ (Eq.trans (len_ApiEvent _ (inv_ApiEvent _ hl36)) (Eq.symm (len_ApiEvent _ (by kernel_rfl))))) ?_)
     intro w hI
     refine oD (qT (cQ (cR [0, 1, 2, 3, 4, 5, 6] ?_)))
     refine oC (jY (jL (d := 43) (T := 50) (v := .agg (c_ApiEvent (gt ue x26)).toArray) (by kernel_rfl) (ldBN ty50 (l := c_ApiEvent (gt ue x26)) (o := 0) (cs := c_ApiEvent (gt ue x26)) (ent_refl _) (len_ApiEvent _ (inv_ApiEvent _ hl36)) (whole _ _ (len_ApiEvent _ (inv_ApiEvent _ hl36))))) hI ?_)
     obtain ⟨⟨y40, y41⟩, hc39, h1⟩ := bindS h1
     try dsimp only at h1
     refine oC (jC (d := some 44) (n := 24) (vs := [.agg (c_ApiEvent (gt ue x26)).toArray]) (by kernel_rfl) en24 (c24 w0 w _ _ hI hT (gt ue x26) (inv_ApiEvent _ hl36) _ hc39) ?_)
     rintro e w ⟨rfl, hI⟩
     refine ⟨_, rfl, ?_⟩
     refine oP (r := []) [2, 3, 4, 5, 6] (S' := [(4, pb b5), (7, .string y40), (8, .bool y41), (36, .slice ua ue.length ubi), (37, iv (ue.length : Int)), (38, iv x26)]) ?_
     refine oD (qT (cQ (cQ (cR [0, 1] ?_))))
     refine oP (r := []) [0, 1] (S' := [(4, pb b5), (7, .string y40), (36, .slice ua ue.length ubi), (37, iv (ue.length : Int)), (38, iv x26), (48, .bool (!y41))]) ?_
     refine oD (qT ?_)
     by_cases hb42 : (!y41) = true
     ·
      rw [if_pos hb42] at h1
      refine cY (b := !y41) hb42 ?_
      refine cQ (cR [0, 1] ?_)
      refine oP (r := []) [0, 1] (S' := [(2, .string q8e), (3, .bool false)]) ?_
      refine oD (qT (jE (jR (jQ (jR (jR (jQ (jR (jR ?_)))))))))
      have hI := hI.drop
      have hI := hI.drop
      have hI := hI.drop
      have e := someS h1
      subst e
      try dsimp only at h0
      have e := someS h0
      subst e
      refine qK [2, 3] (S' := [(2, .string q8e), (3, .bool false)]) ?_
      exact post_ret (v := .tuple #[.string q8e, .bool false]) (fun a ha => jU (vs := [.string q8e, .bool false]) (.tmp (t := 2) (by kernel_rfl) (.tmp (t := 3) (by kernel_rfl) .nil)) ha (by kernel_rfl)) ⟨rfl, hI⟩
     ·
      rw [if_neg hb42] at h1
      refine cN (b := !y41) (by simpa using hb42) ?_
      refine jS (qT (cR [0, 1, 2] ?_))
      refine oP (r := [1, 2]) [0] (S' := [(4, pb b5), (36, .slice ua ue.length ubi), (37, iv (ue.length : Int)), (38, iv x26), (49, .string y40)]) ?_
      obtain ⟨y44, hc43, h1⟩ := bindS h1
      try dsimp only at h1
      refine oC (jC (d := some 50) (n := 25) (vs := [.string y40]) (by kernel_rfl) en25 (c25 w0 w _ _ hI hT y40 _ hc43) ?_)
      rintro e w ⟨rfl, hI⟩
      refine ⟨_, rfl, ?_⟩
      have hI := hI.mono (pick2 _ _ _)
      have hI := hI.mono (pick3 _ _ _ _)
      obtain ⟨⟨y46, y47, y48, y49⟩, hc45, h1⟩ := bindS h1
      try dsimp only at h1
      refine oC (jC (d := some 51) (n := 21) (vs := [pb b5, .string y44]) (by kernel_rfl) en21 (c21 w0 w _ _ hT b5 x27 A29 cp30 x28 y44 hI _ hc45) ?_)
      rintro e w ⟨A50, cp51, rfl, hI⟩
      refine ⟨_, rfl, ?_⟩
      refine oD (jN (qT (cR [0, 1] ?_)))
      refine oP (r := []) [0, 1] (S' := [(4, pb b5), (36, .slice ua ue.length ubi), (37, iv (ue.length : Int)), (38, iv (wi64 (x26 + 1)))]) ?_
      refine oD ?_
      have hI := hI.mono (pick3 _ _ _ _)
      have hI := hI.drop
      have hI := hI.mono (pick2 _ _ _)
      exact jT fun a ha => ⟨k, Nat.lt_succ_self k, wi64 (x26 + 1), y48, y49, A50, cp51, h1, ha.keep [4, 36, 37, 38] (by kernel_rfl), hI⟩
    ·
     rw [if_neg hb31] at h1
     refine cN (b := decide (x26 < (ue.length : Int))) (by simpa using hb31) ?_
     refine jZ ?_
     refine jX (jX ?_)
     refine Qn.block ?_
     have e := someS h1
     subst e
     exact jT fun a ha => ⟨x27, x28, A29, cp30, rfl, ha.keep [4] (by kernel_rfl), hI⟩
   ·
    rintro a w ⟨x22, x23, A24, cp25, rfl, ha, hI⟩
    try dsimp only at h0
    refine Qn.of ?_ ha
    refine qT (cQ (cR [0, 1, 2] ?_))
    have hI := hI.mono (pick2 _ _ _)
    obtain ⟨⟨y53, y54, y55⟩, hc52, h0⟩ := bindS h0
    try dsimp only at h0
    refine oC (jC (d := some 53) (n := 26) (vs := [pb b5]) (by kernel_rfl) en26 (c26 w0 w _ _ hT b5 x22 A24 cp25 x23 hI _ hc52) ?_)
    rintro e w ⟨A56, cp57, Z59, hle60, rfl, hr58, hI⟩
    refine ⟨_, rfl, ?_⟩
    refine oP (r := []) [1, 2] (S' := [(2, .string y53), (3, .bool true)]) ?_
    refine oD (qT (jE ?_))
    have hI := hI.drop
    have e := someS h0
    subst e
    refine qK [2, 3] (S' := [(2, .string y53), (3, .bool true)]) ?_
    exact post_ret (v := .tuple #[.string y53, .bool true]) (fun a ha => jU (vs := [.string y53, .bool true]) (.tmp (t := 2) (by kernel_rfl) (.tmp (t := 3) (by kernel_rfl) .nil)) ha (by kernel_rfl)) ⟨rfl, hI.weaken hle60⟩
/-- internal/stringslite.HasPrefix -/
theorem c100 (w0 w : World) (Z : Hp) (A : HP) (hI : Inv w0 Z w A) (hT : Tabs Z) (a0 : ByteArray) (a1 : ByteArray) (r : Bool) (h0 : stringslite_HasPrefix a0 a1 = some r) :
  Calls prog 100 #[.string a0, .string a1] w (fun e w' => e = .returned (.bool r) ∧ Inv w0 Z w' A) := by
 have e4 := calls_intro (R := (fun e w' => e = .returned (.bool r) ∧ Inv w0 Z w' A)) (w := w) (args := [.string a0, .string a1]) (fn := Go.Proofs.Tryz.f100) 18 Go.Proofs.Tryz.func100 (by rfl) Go.Proofs.Tryz.ntmps100 (by kernel_rfl)
 refine e4 ?_
 clear e4
 unfold stringslite_HasPrefix at h0
 refine cQ (cR [0] ?_)
 refine oP (r := []) [0] (S' := [(0, .string a0), (1, .string a1)]) ?_
 refine oD (qT ?_)
 obtain ⟨r1, h1, h0⟩ := bindS h0
 refine jM (fun a w => ∃ (x1 : Bool), x1 = r1 ∧ Fr 18 [(4, .bool x1)] a ∧ Inv w0 Z w A) ?_ ?_
 ·
  refine cR [0, 1, 2, 3, 4, 5, 6, 7, 8, 9, 10, 11, 12, 13] ?_
  refine oP (r := [6, 7, 8, 9, 10, 11, 12, 13]) [0, 1, 2, 3, 4, 5] (S' := [(0, .string a0), (1, .string a1), (10, .bool (decide ((a0.size : Int) ≥ (a1.size : Int))))]) ?_
  by_cases hb2 : (decide ((a0.size : Int) ≥ (a1.size : Int))) = true
  ·
   rw [if_pos hb2] at h1
   refine OpsT.keep [0, 1, 10] (S' := [(0, .string a0), (1, .string a1), (10, .bool true)]) (by (try simp only [hb2]); kernel_rfl) ?_
   refine oP (r := [9, 10, 11, 12, 13]) [6, 7, 8] (S' := [(1, .string a1), (10, .bool true), (11, .string a0), (13, iv (a1.size : Int))]) ?_
   obtain ⟨hg3, h1⟩ := guardS h1
   refine oC (jY (Yl.sliceStr01 (d := 14) (T := 9) (s := a0) (hi := (a1.size : Int)) (by kernel_rfl) Go.Proofs.Tryz.underlying9 hg3) hI ?_)
   refine oP (r := []) [10, 11, 12, 13] (S' := [(4, .bool (seq (sx a0 0 (a1.size : Int)) a1))]) ?_
   refine oD ?_
   have e := someS h1
   subst e
   exact jT fun a ha => ⟨seq (sx a0 0 (a1.size : Int)) a1, rfl, ha.keep [4] (by kernel_rfl), hI⟩
  ·
   rw [if_neg hb2] at h1
   have hb2 : (decide ((a0.size : Int) ≥ (a1.size : Int))) = false := by simpa using hb2
   refine OpsT.keep [0, 1, 10] (S' := [(0, .string a0), (1, .string a1), (10, .bool false)]) (by (try simp only [hb2]); kernel_rfl) ?_
   refine oP (r := []) [6, 7, 8, 9, 10, 11, 12, 13] (S' := [(4, .bool false)]) ?_
   refine oD ?_
   have e := someS h1
   subst e
   exact jT fun a ha => ⟨false, rfl, ha.keep [4] (by kernel_rfl), hI⟩
 ·
  rintro a w ⟨x1, rfl, ha, hI⟩
  try dsimp only at h0
  refine CodT.of ?_ ha
  refine jE ?_
  have e := someS h0
  subst e
  refine qK [4] (S' := [(4, .bool x1)]) ?_
  exact post_ret (v := .bool x1) (fun a ha => jU (vs := [.bool x1]) (.tmp (t := 4) (by kernel_rfl) .nil) ha (by kernel_rfl)) ⟨rfl, hI⟩
/-- internal/stringslite.CutPrefix -/
theorem c78 (w0 w : World) (Z : Hp) (A : HP) (hI : Inv w0 Z w A) (hT : Tabs Z) (a0 : ByteArray) (a1 : ByteArray) (r : (ByteArray × Bool)) (h0 : stringslite_CutPrefix a0 a1 = some r) :
  Calls prog 78 #[.string a0, .string a1] w (fun e w' => e = .returned (.tuple #[.string r.1, .bool r.2]) ∧ Inv w0 Z w' A) := by
 have e4 := calls_intro (R := (fun e w' => e = .returned (.tuple #[.string r.1, .bool r.2]) ∧ Inv w0 Z w' A)) (w := w) (args := [.string a0, .string a1]) (fn := Go.Proofs.Tryz.f78) 15 Go.Proofs.Tryz.func78 (by rfl) Go.Proofs.Tryz.ntmps78 (by kernel_rfl)
 refine e4 ?_
 clear e4
 unfold stringslite_CutPrefix at h0
 refine cQ (cR [0, 1] ?_)
 refine oP (r := []) [0, 1] (S' := [(0, .string a0), (1, .string a1)]) ?_
 refine oD (qT (cQ (cQ (cR [0, 1, 2, 3] ?_))))
 refine oP (r := [2, 3]) [0, 1] (S' := [(0, .string a0), (1, .string a1), (6, .string a0), (7, .string a1)]) ?_
 obtain ⟨y2, hc1, h0⟩ := bindS h0
 try dsimp only at h0
 refine oC (jC (d := some 8) (n := 100) (vs := [.string a0, .string a1]) (by kernel_rfl) en100 (c100 w0 w _ _ hI hT a0 a1 _ hc1) ?_)
 rintro e w ⟨rfl, hI⟩
 refine ⟨_, rfl, ?_⟩
 refine oP (r := []) [3] (S' := [(0, .string a0), (1, .string a1), (9, .bool (!y2))]) ?_
 refine oD (qT ?_)
 by_cases hb3 : (!y2) = true
 ·
  rw [if_pos hb3] at h0
  refine cY (b := !y2) hb3 ?_
  refine cQ (cR [0, 1, 2] ?_)
  refine oP (r := []) [0, 1, 2] (S' := [(4, .string a0), (5, .bool false)]) ?_
  refine oD (qT (jE (jR ?_)))
  have e := someS h0
  subst e
  refine qK [4, 5] (S' := [(4, .string a0), (5, .bool false)]) ?_
  exact post_ret (v := .tuple #[.string a0, .bool false]) (fun a ha => jU (vs := [.string a0, .bool false]) (.tmp (t := 4) (by kernel_rfl) (.tmp (t := 5) (by kernel_rfl) .nil)) ha (by kernel_rfl)) ⟨rfl, hI⟩
 ·
  rw [if_neg hb3] at h0
  refine cN (b := !y2) (by simpa using hb3) ?_
  refine jS (qT (cQ (cR [0, 1, 2, 3, 4, 5] ?_)))
  refine oP (r := [3, 4, 5]) [0, 1, 2] (S' := [(11, .string a0), (13, iv (a1.size : Int))]) ?_
  obtain ⟨hg4, h0⟩ := guardS h0
  refine oC (jY (Yl.sliceStr10 (d := 14) (T := 9) (s := a0) (lo := (a1.size : Int)) (by kernel_rfl) Go.Proofs.Tryz.underlying9 hg4) hI ?_)
  refine oP (r := []) [4, 5] (S' := [(4, .string (sx a0 (a1.size : Int) (a0.size : Int))), (5, .bool true)]) ?_
  refine oD (qT (jE ?_))
  have e := someS h0
  subst e
  refine qK [4, 5] (S' := [(4, .string (sx a0 (a1.size : Int) (a0.size : Int))), (5, .bool true)]) ?_
  exact post_ret (v := .tuple #[.string (sx a0 (a1.size : Int) (a0.size : Int)), .bool true]) (fun a ha => jU (vs := [.string (sx a0 (a1.size : Int) (a0.size : Int)), .bool true]) (.tmp (t := 4) (by kernel_rfl) (.tmp (t := 5) (by kernel_rfl) .nil)) ha (by kernel_rfl)) ⟨rfl, hI⟩
/-- strings.CutPrefix -/
theorem c60 (w0 w : World) (Z : Hp) (A : HP) (hI : Inv w0 Z w A) (hT : Tabs Z) (a0 : ByteArray) (a1 : ByteArray) (r : (ByteArray × Bool)) (h0 : strings_CutPrefix a0 a1 = some r) :
  Calls prog 60 #[.string a0, .string a1] w (fun e w' => e = .returned (.tuple #[.string r.1, .bool r.2]) ∧ Inv w0 Z w' A) := by
 have e4 := calls_intro (R := (fun e w' => e = .returned (.tuple #[.string r.1, .bool r.2]) ∧ Inv w0 Z w' A)) (w := w) (args := [.string a0, .string a1]) (fn := Go.Proofs.Tryz.f60) 11 Go.Proofs.Tryz.func60 (by rfl) Go.Proofs.Tryz.ntmps60 (by kernel_rfl)
 refine e4 ?_
 clear e4
 unfold strings_CutPrefix at h0
 refine cQ (cR [0, 1] ?_)
 refine oP (r := []) [0, 1] (S' := [(0, .string a0), (1, .string a1)]) ?_
 refine oD (qT (cQ (cR [0, 1, 2, 3, 4, 5, 6] ?_)))
 refine oP (r := [2, 3, 4, 5, 6]) [0, 1] (S' := [(6, .string a0), (7, .string a1)]) ?_
 obtain ⟨⟨y2, y3⟩, hc1, h0⟩ := bindS h0
 try dsimp only at h0
 refine oC (jC (d := some 8) (n := 78) (vs := [.string a0, .string a1]) (by kernel_rfl) en78 (c78 w0 w _ _ hI hT a0 a1 _ hc1) ?_)
 rintro e w ⟨rfl, hI⟩
 refine ⟨_, rfl, ?_⟩
 refine oP (r := []) [3, 4, 5, 6] (S' := [(4, .string y2), (5, .bool y3)]) ?_
 refine oD (qT (jE ?_))
 have e := someS h0
 subst e
 refine qK [4, 5] (S' := [(4, .string y2), (5, .bool y3)]) ?_
 exact post_ret (v := .tuple #[.string y2, .bool y3]) (fun a ha => jU (vs := [.string y2, .bool y3]) (.tmp (t := 4) (by kernel_rfl) (.tmp (t := 5) (by kernel_rfl) .nil)) ha (by kernel_rfl)) ⟨rfl, hI⟩
/-- (*cenotaph/bundle.reader).begins -/
theorem c37 (w0 w : World) (Z : Hp) (A : HP)  (hT : Tabs Z) (b_a0 : Nat) (ui : Int) (uj : (List Int)) (ucd : uj.length = 32) (ub : Option Addr) (ubj : Nat) (uh : (List ApiEvent)) (ubd : ByteArray) (ubc : Int) (hI : Inv w0 Z w (star (pt b_a0 (.cells (((([iv ui] : LV) ++ (q8c uj) ++ ([.slice ub uh.length ubj] : LV)) ++ ([.string ubd, iv ubc] : LV))).toArray 69 (0, 0))) (star (ownS 50 c_ApiEvent 37 ub ubj uh) A))) (r : (Bool × Int × (List Int) × (List ApiEvent) × ByteArray × Int)) (h0 : bundle_reader_begins ui uj uh ubd ubc = some r) :
  Calls prog 37 #[pb b_a0] w (fun e w' => ∃ (A1 : Option Addr) (c1 : Nat), e = .returned (.bool r.1) ∧ r.2.2.1.length = 32 ∧ Inv w0 Z w' (star (pt b_a0 (.cells (((([iv r.2.1] : LV) ++ (q8c r.2.2.1) ++ ([.slice A1 r.2.2.2.1.length c1] : LV)) ++ ([.string r.2.2.2.2.1, iv r.2.2.2.2.2] : LV))).toArray 69 (0, 0))) (star (ownS 50 c_ApiEvent 37 A1 c1 r.2.2.2.1) A))) := by
 have e4 := calls_intro (R := (fun e w' => ∃ (A1 : Option Addr) (c1 : Nat), e = .returned (.bool r.1) ∧ r.2.2.1.length = 32 ∧ Inv w0 Z w' (star (pt b_a0 (.cells (((([iv r.2.1] : LV) ++ (q8c r.2.2.1) ++ ([.slice A1 r.2.2.2.1.length c1] : LV)) ++ ([.string r.2.2.2.2.1, iv r.2.2.2.2.2] : LV))).toArray 69 (0, 0))) (star (ownS 50 c_ApiEvent 37 A1 c1 r.2.2.2.1) A)))) (w := w) (args := [pb b_a0]) (fn := Go.Proofs.Tryz.f37) 18 Go.Proofs.Tryz.func37 (by rfl) Go.Proofs.Tryz.ntmps37 (by kernel_rfl)
 refine e4 ?_
 clear e4
 unfold bundle_reader_begins at h0
 refine cQ (cR [0] ?_)
 refine oP (r := []) [0] (S' := [(0, pb b_a0)]) ?_
 refine oD (qT (cQ (cR [0, 1, 2, 3, 4, 5, 6, 7, 8, 9] ?_)))
 refine oP (r := [3, 4, 5, 6, 7, 8, 9]) [0, 1, 2] (S' := [(0, pb b_a0), (8, .pointer (some ⟨b_a0, 34, none⟩))]) ?_
 refine oC (jY (jL (d := 9) (T := 9) (v := .string ubd) (by kernel_rfl) (ldB ty9 (l := ((([iv ui] : LV) ++ (q8c uj) ++ ([.slice ub uh.length ubj] : LV)) ++ ([.string ubd, iv ubc] : LV))) (o := 34) (v := .string ubd) (ent_refl _) (seg_get [([iv ui] : LV), cA (Value.int .u8) uj, ([.slice ub uh.length ubj] : LV), ([.string ubd] : LV), ([iv ubc] : LV)] 3 (by simp [cA_length, ucd]) (by simp [cA_length, ucd]) rfl))) hI ?_)
 obtain ⟨⟨y2, y3⟩, hc1, h0⟩ := bindS h0
 try dsimp only at h0
 refine oC (jC (d := some 10) (n := 60) (vs := [.string ubd, .string (⟨#[67, 69, 78, 79]⟩ : ByteArray)]) (by kernel_rfl) en60 (c60 w0 w _ _ hI hT ubd (⟨#[67, 69, 78, 79]⟩ : ByteArray) _ hc1) ?_)
 rintro e w ⟨rfl, hI⟩
 refine ⟨_, rfl, ?_⟩
 refine oP (r := []) [5, 6, 7, 8, 9] (S' := [(0, pb b_a0), (3, .string y2), (4, .bool y3)]) ?_
 refine oD (qT (cQ (cR [0, 1, 2, 3, 4] ?_)))
 refine oP (r := [4]) [0, 1, 2, 3] (S' := [(4, .bool y3), (14, .string y2), (16, .pointer (some ⟨b_a0, 34, none⟩))]) ?_
 refine oC (dS (T := 9) (b := b_a0) (o := 34) (v := .string y2) (l := ((([iv ui] : LV) ++ (q8c uj) ++ ([.slice ub uh.length ubj] : LV)) ++ ([.string ubd, iv ubc] : LV))) (vs := ([.string y2] : LV)) (L' := ((([iv ui] : LV) ++ (q8c uj) ++ ([.slice ub uh.length ubj] : LV)) ++ ([.string y2, iv ubc] : LV))) (by kernel_rfl) ty9 hI (by kernel_rfl) (by kernel_rfl) (by rw [show List.length _ = 36 from by simp [cA_length, ucd]]; kernel_rfl) (by kernel_rfl) (seg_set [([iv ui] : LV), cA (Value.int .u8) uj, ([.slice ub uh.length ubj] : LV), ([.string ubd] : LV), ([iv ubc] : LV)] 3 (by simp [cA_length, ucd]) (by simp [cA_length, ucd]) (by simp [cA_length, ucd]) (by simp [cA_length, ucd])) ?_)
 intro w hI
 refine oD (qT (cQ (cR [0, 1] ?_)))
 refine oP (r := []) [0, 1] (S' := [(2, .bool y3)]) ?_
 refine oD (qT (jE ?_))
 have e := someS h0
 subst e
 refine qK [2] (S' := [(2, .bool y3)]) ?_
 exact post_ret (v := .bool y3) (fun a ha => jU (vs := [.bool y3]) (.tmp (t := 2) (by kernel_rfl) .nil) ha (by kernel_rfl)) ⟨ub, ubj, rfl, ucd, hI⟩
/-- cenotaph/wire.num -/
theorem c79 (w0 w : World) (Z : Hp) (A : HP) (hI : Inv w0 Z w A) (hT : Tabs Z) (a0 : ByteArray) (r : WireGot_int) (h0 : wire_num a0 = some r) :
  Calls prog 79 #[.string a0] w (fun e w' => e = .returned (.agg (c_WireGot_int r).toArray) ∧ Inv w0 Z w' A) := by
 have e4 := calls_intro (R := (fun e w' => e = .returned (.agg (c_WireGot_int r).toArray) ∧ Inv w0 Z w' A)) (w := w) (args := [.string a0]) (fn := Go.Proofs.Tryz.f79) 45 Go.Proofs.Tryz.func79 (by rfl) Go.Proofs.Tryz.ntmps79 (by kernel_rfl)
 refine e4 ?_
 clear e4
 unfold wire_num at h0
 refine cQ (cR [0] ?_)
 refine oC (jA (d := 2) (T := 117) (c_WireGot_int (WireGot_int.mk 0 q8e false)) (by kernel_rfl) ty117 hI (by kernel_rfl) ?_)
 intro b1 w hI
 refine oD (qT (cQ (cR [0] ?_)))
 refine oP (r := []) [0] (S' := [(0, .string a0), (2, pb b1), (3, iv 0)]) ?_
 refine oD (qT (cQ (cQ (cR [0, 1, 2, 3] ?_))))
 refine oP (r := []) [0, 1, 2, 3] (S' := [(0, .string a0), (2, pb b1), (3, iv 0), (7, iv (if 8 < (a0.size : Int) then 8 else (a0.size : Int))), (8, iv 0)]) ?_
 refine oD (qT ?_)
 obtain ⟨r1, h1, h0⟩ := bindS h0
 refine CodT.meet1 (fun a w => .inr () = r1 ∧ Fr 45 [(2, pb b1)] a ∧ Inv w0 Z w (star (pt b1 (.cells (c_WireGot_int (WireGot_int.mk 0 q8e false)).toArray 117 (0, 0))) A)) ?_ ?_
 ·
  refine jB ?_
  refine (fun a ha => wp_loopN (fun k a w => ∃ (x2 : Int) (x3 : Int), wire_num.l0 a0 k x2 x3 = some r1 ∧ Fr 45 [(0, .string a0), (2, pb b1), (3, iv x2), (7, iv (if 8 < (a0.size : Int) then 8 else (a0.size : Int))), (8, iv x3)] a ∧ Inv w0 Z w (star (pt b1 (.cells (c_WireGot_int (WireGot_int.mk 0 q8e false)).toArray 117 (0, 0))) A)) ?_ FU a w ⟨0, 0, h1, ha.keep [0, 2, 3, 7, 8] (by kernel_rfl), hI⟩)
  clear h1 hI
  rintro k a w ⟨x2, x3, h1, ha, hI⟩
  rcases k with _ | k
  ·
   cases h1
  simp only [wire_num.l0] at h1
  refine CodT.of ?_ ha
  refine cQ (cR [0] ?_)
  refine oP (r := []) [0] (S' := [(0, .string a0), (2, pb b1), (3, iv x2), (7, iv (if 8 < (a0.size : Int) then 8 else (a0.size : Int))), (8, iv x3), (9, .bool (decide (x3 < (if 8 < (a0.size : Int) then 8 else (a0.size : Int)))))]) ?_
  refine oD (qT (cQ ?_))
  by_cases hb4 : (decide (x3 < (if 8 < (a0.size : Int) then 8 else (a0.size : Int)))) = true
  ·
   rw [if_pos hb4] at h1
   refine cY (b := decide (x3 < (if 8 < (a0.size : Int) then 8 else (a0.size : Int)))) hb4 ?_
   refine jS (qT (cQ (jB (cQ (cR [0, 1] ?_)))))
   refine oP (r := []) [0, 1] (S' := [(0, .string a0), (2, pb b1), (3, iv x2), (4, iv x3), (7, iv (if 8 < (a0.size : Int) then 8 else (a0.size : Int))), (8, iv x3)]) ?_
   refine oD (qT (cQ (cR [0, 1, 2, 3, 4, 5, 6, 7, 8, 9, 10] ?_)))
   refine oP (r := [3, 4, 5, 6, 7, 8, 9, 10]) [0, 1, 2] (S' := [(0, .string a0), (2, pb b1), (4, iv x3), (7, iv (if 8 < (a0.size : Int) then 8 else (a0.size : Int))), (8, iv x3), (11, iv x2), (12, .string a0), (13, iv x3)]) ?_
   obtain ⟨hg5, h1⟩ := guardS h1
   refine oC (jY (Yl.indexStr (d := 14) (T := 9) (k := .i64) (j := x3) (s := a0) (by kernel_rfl) Go.Proofs.Tryz.underlying9 hg5.1 hg5.2) hI ?_)
   refine oP (r := [8, 9, 10]) [4, 5, 6, 7] (S' := [(0, .string a0), (2, pb b1), (4, iv x3), (7, iv (if 8 < (a0.size : Int) then 8 else (a0.size : Int))), (8, iv x3), (11, iv x2), (16, iv (wi64 (bAnd .u8 (bt a0 x3) 127))), (18, iv (wi64 (7 * x3)))]) ?_
   obtain ⟨hg6, h1⟩ := guardS h1
   refine oC (jY (Yl.shl (d := 19) (T := 3) (k := .i64) (k' := .i64) (x := wi64 (bAnd .u8 (bt a0 x3) 127)) (y := wi64 (7 * x3)) (by kernel_rfl) hg6) hI ?_)
   refine oP (r := []) [9, 10] (S' := [(0, .string a0), (2, pb b1), (3, iv (bOr .i64 x2 (bShl .i64 (wi64 (bAnd .u8 (bt a0 x3) 127)) (wi64 (7 * x3))))), (4, iv x3), (7, iv (if 8 < (a0.size : Int) then 8 else (a0.size : Int))), (8, iv x3)]) ?_
   refine oD (qT (cQ (cR [0, 1, 2, 3] ?_)))
   refine oP (r := [2, 3]) [0, 1] (S' := [(0, .string a0), (2, pb b1), (3, iv (bOr .i64 x2 (bShl .i64 (wi64 (bAnd .u8 (bt a0 x3) 127)) (wi64 (7 * x3))))), (4, iv x3), (7, iv (if 8 < (a0.size : Int) then 8 else (a0.size : Int))), (8, iv x3), (21, .string a0), (22, iv x3)]) ?_
   obtain ⟨hg7, h1⟩ := guardS h1
   refine oC (jY (Yl.indexStr (d := 23) (T := 9) (k := .i64) (j := x3) (s := a0) (by kernel_rfl) Go.Proofs.Tryz.underlying9 hg7.1 hg7.2) hI ?_)
   refine oP (r := []) [3] (S' := [(0, .string a0), (2, pb b1), (3, iv (bOr .i64 x2 (bShl .i64 (wi64 (bAnd .u8 (bt a0 x3) 127)) (wi64 (7 * x3))))), (4, iv x3), (7, iv (if 8 < (a0.size : Int) then 8 else (a0.size : Int))), (8, iv x3), (24, .bool (decide ((bt a0 x3) < 128)))]) ?_
   refine oD (qT ?_)
   by_cases hb8 : (decide ((bt a0 x3) < 128)) = true
   ·
    rw [if_pos hb8] at h1
    refine cY (b := decide ((bt a0 x3) < 128)) hb8 ?_
    obtain ⟨r2, h2, h1⟩ := bindS h1
    refine jM (fun a w => ∃ (x9 : WireGot_int), x9 = r2 ∧ Fr 45 [(2, pb b1)] a ∧ Inv w0 Z w (star (pt b1 (.cells (c_WireGot_int x9).toArray 117 (0, 0))) A)) ?_ ?_
    ·
     refine CodT.drawI (n := 19) [18] (by kernel_rfl) (by kernel_rfl) hI ?_
     intro w hI
     refine gP 0 25 (iv (bOr .i64 x2 (bShl .i64 (wi64 (bAnd .u8 (bt a0 x3) 127)) (wi64 (7 * x3))))) ?_
     refine gP 1 26 (.string a0) ?_
     refine gP 2 27 (iv x3) ?_
     refine gP 3 28 (iv (wi64 (x3 + 1))) ?_
     refine gP 5 30 (iv (bOr .i64 x2 (bShl .i64 (wi64 (bAnd .u8 (bt a0 x3) 127)) (wi64 (7 * x3))))) ?_
     refine gP 6 31 (.bool (decide ((bOr .i64 x2 (bShl .i64 (wi64 (bAnd .u8 (bt a0 x3) 127)) (wi64 (7 * x3)))) ≤ 1125899906842624))) ?_
     refine gP 7 32 (.bool (decide ((bOr .i64 x2 (bShl .i64 (wi64 (bAnd .u8 (bt a0 x3) 127)) (wi64 (7 * x3)))) ≤ 1125899906842624))) ?_
     by_cases hb10 : (decide ((bOr .i64 x2 (bShl .i64 (wi64 (bAnd .u8 (bt a0 x3) 127)) (wi64 (7 * x3)))) ≤ 1125899906842624)) = true
     ·
      rw [if_pos hb10] at h2
      refine GmT.keep [0, 2, 4, 25, 26, 28, 32] (S' := [(0, .string a0), (2, pb b1), (4, iv x3), (25, iv (bOr .i64 x2 (bShl .i64 (wi64 (bAnd .u8 (bt a0 x3) 127)) (wi64 (7 * x3))))), (26, .string a0), (28, iv (wi64 (x3 + 1))), (32, .bool true)]) (by (try simp only [hb10]); kernel_rfl) ?_
      refine gP 8 33 (iv x3) ?_
      refine gP 9 34 (.bool (x3 == 0)) ?_
      refine gP 10 35 (.bool (x3 == 0)) ?_
      by_cases hb11 : (x3 == 0) = true
      ·
       rw [if_pos hb11] at h2
       refine GmT.keep [0, 2, 4, 25, 26, 28, 32, 35] (S' := [(0, .string a0), (2, pb b1), (4, iv x3), (25, iv (bOr .i64 x2 (bShl .i64 (wi64 (bAnd .u8 (bt a0 x3) 127)) (wi64 (7 * x3))))), (26, .string a0), (28, iv (wi64 (x3 + 1))), (32, .bool true), (35, .bool true)]) (by (try simp only [hb11]); kernel_rfl) ?_
       refine gP 11 36 (undef) ?_
       refine gP 12 37 (undef) ?_
       refine gP 13 38 (undef) ?_
       refine gP 14 39 (undef) ?_
       refine gP 15 40 (.bool true) ?_
       refine gP 16 41 (.bool true) ?_
       obtain ⟨hg12, h2⟩ := guardS h2
       refine gR (i := 4) 2 (Yl.sliceStr10 (d := 29) (T := 9) (s := a0) (lo := wi64 (x3 + 1)) (by kernel_rfl) Go.Proofs.Tryz.underlying9 hg12) hI ?_
       refine gP 17 42 (.agg (c_WireGot_int (WireGot_int.mk (bOr .i64 x2 (bShl .i64 (wi64 (bAnd .u8 (bt a0 x3) 127)) (wi64 (7 * x3)))) (sx a0 (wi64 (x3 + 1)) (a0.size : Int)) true)).toArray) ?_
       refine jO (i := 18) (by kernel_rfl) (dS (T := 117) (b := b1) (o := 0) (v := .agg (c_WireGot_int (WireGot_int.mk (bOr .i64 x2 (bShl .i64 (wi64 (bAnd .u8 (bt a0 x3) 127)) (wi64 (7 * x3)))) (sx a0 (wi64 (x3 + 1)) (a0.size : Int)) true)).toArray) (l := c_WireGot_int (WireGot_int.mk 0 q8e false)) (vs := c_WireGot_int (WireGot_int.mk (bOr .i64 x2 (bShl .i64 (wi64 (bAnd .u8 (bt a0 x3) 127)) (wi64 (7 * x3)))) (sx a0 (wi64 (x3 + 1)) (a0.size : Int)) true)) (L' := c_WireGot_int (WireGot_int.mk (bOr .i64 x2 (bShl .i64 (wi64 (bAnd .u8 (bt a0 x3) 127)) (wi64 (7 * x3)))) (sx a0 (wi64 (x3 + 1)) (a0.size : Int)) true)) (by kernel_rfl) ty117 hI (by kernel_rfl) (by kernel_rfl) (by kernel_rfl) (by kernel_rfl) (by kernel_rfl) ?_)
       intro w hI
       refine ⟨fun h => absurd h (by decide), ?_⟩
       refine jD (by kernel_rfl) ?_
       have e := someS h2
       subst e
       exact jT fun a ha => ⟨(WireGot_int.mk (bOr .i64 x2 (bShl .i64 (wi64 (bAnd .u8 (bt a0 x3) 127)) (wi64 (7 * x3)))) (sx a0 (wi64 (x3 + 1)) (a0.size : Int)) true), rfl, ha.keep [2] (by kernel_rfl), hI⟩
      ·
       rw [if_neg hb11] at h2
       have hb11 : (x3 == 0) = false := by simpa using hb11
       refine GmT.keep [0, 2, 4, 25, 26, 28, 32, 35] (S' := [(0, .string a0), (2, pb b1), (4, iv x3), (25, iv (bOr .i64 x2 (bShl .i64 (wi64 (bAnd .u8 (bt a0 x3) 127)) (wi64 (7 * x3))))), (26, .string a0), (28, iv (wi64 (x3 + 1))), (32, .bool true), (35, .bool false)]) (by (try simp only [hb11]); kernel_rfl) ?_
       refine gP 11 36 (.string a0) ?_
       refine gP 12 37 (iv x3) ?_
       obtain ⟨hg13, h2⟩ := guardS h2
       refine gR (i := 4) 2 (Yl.sliceStr10 (d := 29) (T := 9) (s := a0) (lo := wi64 (x3 + 1)) (by kernel_rfl) Go.Proofs.Tryz.underlying9 hg13) hI ?_
       obtain ⟨hg14, h2⟩ := guardS h2
       refine gR (i := 13) 2 (Yl.indexStr (d := 38) (T := 9) (k := .i64) (j := x3) (s := a0) (by kernel_rfl) Go.Proofs.Tryz.underlying9 hg14.1 hg14.2) hI ?_
       refine gP 14 39 (.bool (decide ((bt a0 x3) > 0))) ?_
       refine gP 15 40 (.bool (decide ((bt a0 x3) > 0))) ?_
       refine gP 16 41 (.bool (decide ((bt a0 x3) > 0))) ?_
       refine gP 17 42 (.agg (c_WireGot_int (WireGot_int.mk (bOr .i64 x2 (bShl .i64 (wi64 (bAnd .u8 (bt a0 x3) 127)) (wi64 (7 * x3)))) (sx a0 (wi64 (x3 + 1)) (a0.size : Int)) (decide ((bt a0 x3) > 0)))).toArray) ?_
       refine jO (i := 18) (by kernel_rfl) (dS (T := 117) (b := b1) (o := 0) (v := .agg (c_WireGot_int (WireGot_int.mk (bOr .i64 x2 (bShl .i64 (wi64 (bAnd .u8 (bt a0 x3) 127)) (wi64 (7 * x3)))) (sx a0 (wi64 (x3 + 1)) (a0.size : Int)) (decide ((bt a0 x3) > 0)))).toArray) (l := c_WireGot_int (WireGot_int.mk 0 q8e false)) (vs := c_WireGot_int (WireGot_int.mk (bOr .i64 x2 (bShl .i64 (wi64 (bAnd .u8 (bt a0 x3) 127)) (wi64 (7 * x3)))) (sx a0 (wi64 (x3 + 1)) (a0.size : Int)) (decide ((bt a0 x3) > 0)))) (L' := c_WireGot_int (WireGot_int.mk (bOr .i64 x2 (bShl .i64 (wi64 (bAnd .u8 (bt a0 x3) 127)) (wi64 (7 * x3)))) (sx a0 (wi64 (x3 + 1)) (a0.size : Int)) (decide ((bt a0 x3) > 0)))) (by kernel_rfl) ty117 hI (by kernel_rfl) (by kernel_rfl) (by kernel_rfl) (by kernel_rfl) (by kernel_rfl) ?_)
       intro w hI
       refine ⟨fun h => absurd h (by decide), ?_⟩
       refine jD (by kernel_rfl) ?_
       have e := someS h2
       subst e
       exact jT fun a ha => ⟨(WireGot_int.mk (bOr .i64 x2 (bShl .i64 (wi64 (bAnd .u8 (bt a0 x3) 127)) (wi64 (7 * x3)))) (sx a0 (wi64 (x3 + 1)) (a0.size : Int)) (decide ((bt a0 x3) > 0))), rfl, ha.keep [2] (by kernel_rfl), hI⟩
     ·
      rw [if_neg hb10] at h2
      have hb10 : (decide ((bOr .i64 x2 (bShl .i64 (wi64 (bAnd .u8 (bt a0 x3) 127)) (wi64 (7 * x3)))) ≤ 1125899906842624)) = false := by simpa using hb10
      refine GmT.keep [0, 2, 4, 25, 26, 28, 32] (S' := [(0, .string a0), (2, pb b1), (4, iv x3), (25, iv (bOr .i64 x2 (bShl .i64 (wi64 (bAnd .u8 (bt a0 x3) 127)) (wi64 (7 * x3))))), (26, .string a0), (28, iv (wi64 (x3 + 1))), (32, .bool false)]) (by (try simp only [hb10]); kernel_rfl) ?_
      refine gP 8 33 (undef) ?_
      refine gP 9 34 (undef) ?_
      refine gP 10 35 (undef) ?_
      refine gP 11 36 (undef) ?_
      refine gP 12 37 (undef) ?_
      refine gP 13 38 (undef) ?_
      refine gP 14 39 (undef) ?_
      refine gP 15 40 (undef) ?_
      refine gP 16 41 (.bool false) ?_
      obtain ⟨hg15, h2⟩ := guardS h2
      refine gR (i := 4) 2 (Yl.sliceStr10 (d := 29) (T := 9) (s := a0) (lo := wi64 (x3 + 1)) (by kernel_rfl) Go.Proofs.Tryz.underlying9 hg15) hI ?_
      refine gP 17 42 (.agg (c_WireGot_int (WireGot_int.mk (bOr .i64 x2 (bShl .i64 (wi64 (bAnd .u8 (bt a0 x3) 127)) (wi64 (7 * x3)))) (sx a0 (wi64 (x3 + 1)) (a0.size : Int)) false)).toArray) ?_
      refine jO (i := 18) (by kernel_rfl) (dS (T := 117) (b := b1) (o := 0) (v := .agg (c_WireGot_int (WireGot_int.mk (bOr .i64 x2 (bShl .i64 (wi64 (bAnd .u8 (bt a0 x3) 127)) (wi64 (7 * x3)))) (sx a0 (wi64 (x3 + 1)) (a0.size : Int)) false)).toArray) (l := c_WireGot_int (WireGot_int.mk 0 q8e false)) (vs := c_WireGot_int (WireGot_int.mk (bOr .i64 x2 (bShl .i64 (wi64 (bAnd .u8 (bt a0 x3) 127)) (wi64 (7 * x3)))) (sx a0 (wi64 (x3 + 1)) (a0.size : Int)) false)) (L' := c_WireGot_int (WireGot_int.mk (bOr .i64 x2 (bShl .i64 (wi64 (bAnd .u8 (bt a0 x3) 127)) (wi64 (7 * x3)))) (sx a0 (wi64 (x3 + 1)) (a0.size : Int)) false)) (by kernel_rfl) ty117 hI (by kernel_rfl) (by kernel_rfl) (by kernel_rfl) (by kernel_rfl) (by kernel_rfl) ?_)
      intro w hI
      refine ⟨fun h => absurd h (by decide), ?_⟩
      refine jD (by kernel_rfl) ?_
      have e := someS h2
      subst e
      exact jT fun a ha => ⟨(WireGot_int.mk (bOr .i64 x2 (bShl .i64 (wi64 (bAnd .u8 (bt a0 x3) 127)) (wi64 (7 * x3)))) (sx a0 (wi64 (x3 + 1)) (a0.size : Int)) false), rfl, ha.keep [2] (by kernel_rfl), hI⟩
    ·
     rintro a w ⟨x9, rfl, ha, hI⟩
     try dsimp only at h1
     refine CodT.of ?_ ha
     refine jE (jQ (jR (jR (jQ (jR (jR ?_))))))
     have hL16 := (ldBN ty117 (l := c_WireGot_int x9) (o := 0) (cs := c_WireGot_int x9) (ent_refl _) (by kernel_rfl) (whole _ _ (by kernel_rfl))) w hI
     have hI := hI.drop
     have e := someS h1
     subst e
     try dsimp only at h0
     have e := someS h0
     subst e
     refine qK [2] (S' := [(2, pb b1)]) ?_
     exact post_ret (v := .agg (c_WireGot_int x9).toArray) (fun a ha => jU (vs := [.agg (c_WireGot_int x9).toArray]) (.cell (t := 2) (T := 117) (ad := ⟨b1, 0, none⟩) (by kernel_rfl) hL16 .nil) ha (by kernel_rfl)) ⟨rfl, hI⟩
   ·
    rw [if_neg hb8] at h1
    refine cN (b := decide ((bt a0 x3) < 128)) (by simpa using hb8) ?_
    refine jS (jN (qT (cR [0, 1] ?_)))
    refine oP (r := []) [0, 1] (S' := [(0, .string a0), (2, pb b1), (3, iv (bOr .i64 x2 (bShl .i64 (wi64 (bAnd .u8 (bt a0 x3) 127)) (wi64 (7 * x3))))), (7, iv (if 8 < (a0.size : Int) then 8 else (a0.size : Int))), (8, iv (wi64 (x3 + 1)))]) ?_
    refine oD ?_
    exact jT fun a ha => ⟨k, Nat.lt_succ_self k, bOr .i64 x2 (bShl .i64 (wi64 (bAnd .u8 (bt a0 x3) 127)) (wi64 (7 * x3))), wi64 (x3 + 1), h1, ha.keep [0, 2, 3, 7, 8] (by kernel_rfl), hI⟩
  ·
   rw [if_neg hb4] at h1
   refine cN (b := decide (x3 < (if 8 < (a0.size : Int) then 8 else (a0.size : Int)))) (by simpa using hb4) ?_
   refine jZ ?_
   refine jX (jX ?_)
   refine Qn.block ?_
   have e := someS h1
   subst e
   exact jT fun a ha => ⟨rfl, ha.keep [2] (by kernel_rfl), hI⟩
 ·
  rintro a w ⟨rfl, ha, hI⟩
  try dsimp only at h0
  refine Qn.of ?_ ha
  refine qT (cQ (cR [0, 1] ?_))
  refine oP (r := [1]) [0] (S' := [(2, pb b1), (44, .agg (c_WireGot_int (WireGot_int.mk 0 q8e false)).toArray)]) ?_
  refine oC (dS (T := 117) (b := b1) (o := 0) (v := .agg (c_WireGot_int (WireGot_int.mk 0 q8e false)).toArray) (l := c_WireGot_int (WireGot_int.mk 0 q8e false)) (vs := c_WireGot_int (WireGot_int.mk 0 q8e false)) (L' := c_WireGot_int (WireGot_int.mk 0 q8e false)) (by kernel_rfl) ty117 hI (by kernel_rfl) (by kernel_rfl) (by kernel_rfl) (by kernel_rfl) (by kernel_rfl) ?_)
  intro w hI
  refine oD (qT (jE ?_))
  have hL17 := (ldBN ty117 (l := c_WireGot_int (WireGot_int.mk 0 q8e false)) (o := 0) (cs := c_WireGot_int (WireGot_int.mk 0 q8e false)) (ent_refl _) (by kernel_rfl) (whole _ _ (by kernel_rfl))) w hI
  have hI := hI.drop
  have e := someS h0
  subst e
  refine qK [2] (S' := [(2, pb b1)]) ?_
  exact post_ret (v := .agg (c_WireGot_int (WireGot_int.mk 0 q8e false)).toArray) (fun a ha => jU (vs := [.agg (c_WireGot_int (WireGot_int.mk 0 q8e false)).toArray]) (.cell (t := 2) (T := 117) (ad := ⟨b1, 0, none⟩) (by kernel_rfl) hL17 .nil) ha (by kernel_rfl)) ⟨rfl, hI⟩
end Go.Cen
