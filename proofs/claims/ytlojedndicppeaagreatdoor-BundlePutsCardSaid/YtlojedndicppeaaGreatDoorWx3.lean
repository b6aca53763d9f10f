/- That the machine computes these: walks, printed by a program of ours. -/
import Derived.Test.YtlojedndicppeaaGreatDoorPx
import Derived.Test.YtlojedndicppeaaGreatDoorWx2
set_option linter.unusedVariables false
set_option linter.unusedSimpArgs false
namespace Go.Cen
set_option maxRecDepth 100000
set_option maxHeartbeats 4000000
/-- cenotaph/name.Quote -/
theorem c137 (w0 w : World) (Z : Hp) (A : HP) (hI : Inv w0 Z w A) (hT : Tabs Z) (a0 : ByteArray) (r : ByteArray) (h0 : name_Quote a0 = some r) :
  Calls prog 137 #[.string a0] w (fun e w' => e = .returned (.string r) ∧ Inv w0 Z w' A) := by
 have e4 := calls_intro (R := (fun e w' => e = .returned (.string r) ∧ Inv w0 Z w' A)) (w := w) (args := [.string a0]) (fn := Go.Proofs.Tryz.f137) 57 Go.Proofs.Tryz.func137 (by rfl) Go.Proofs.Tryz.ntmps137 (by kernel_rfl)
 refine e4 ?_
 clear e4
 unfold name_Quote at h0
 refine cQ (cR [0] ?_)
 refine oP (r := []) [0] (S' := [(0, .string a0)]) ?_
 refine oD (qT (cQ (cR [0] ?_)))
 refine oC (jA (d := 3) (T := 55) [selfP 0 false, .slice none 0 0] (by kernel_rfl) ty55 hI (by kernel_rfl) ?_)
 intro b1 w hI
 replace hI := hI.eqA (A' := (star (pt b1 (.cells ([selfP b1 false, .slice none 0 0] : LV).toArray 55 (0, 0))) A)) rfl
 refine oD (qT (cQ (cR [0] ?_)))
 have hI := ownS_nil (α := Int) hI 5 (cI .u8) 1
 have hI := hI.mono (pick2 _ _ _)
 obtain ⟨⟨y3, y4, y5⟩, hc2, h0⟩ := bindS h0
 try dsimp only at h0
 refine oC (jC (d := some 6) (n := 138) (vs := [pb b1, .int .u8 34]) (by kernel_rfl) en138 (c138 w0 w _ _ hT b1 false none 0 ([] : List Int) 34 hI _ hc2) ?_)
 rintro e w ⟨A6, cp7, rfl, hI⟩
 refine ⟨_, rfl, ?_⟩
 refine oD (qT (cQ (cQ (cR [0, 1] ?_))))
 refine oP (r := [1]) [0] (S' := [(0, .string a0), (3, pb b1), (7, .string a0)]) ?_
 refine oC (Does.rangeStr (d := 8) (T := 9) (s := a0) (by kernel_rfl) Go.Proofs.Tryz.underlying9 hI ?_)
 intro b8 w hI
 refine oD (qT ?_)
 obtain ⟨r1, h1, h0⟩ := bindS h0
 refine CodT.meet1 (fun a w => ∃ (x11 : Bool) (x12 : (List Int)) (Z9 : Hp) (A13 : Option Addr) (cp14 : Nat), (x11, x12) = r1 ∧ Fr 57 [(3, pb b1)] a ∧ Inv w0 Z9 w (star (ownS 5 (cI .u8) 1 A13 cp14 x12) (star (pt b1 (.cells ([selfP b1 x11, .slice A13 x12.length cp14] : LV).toArray 55 (0, 0))) A)) ∧ Z.le Z9) ?_ ?_
 ·
  refine jB ?_
  have hI := hI.mono (pick2 _ _ _)
  have hI := hI.mono (pick3 _ _ _ _)
  have hI := hI.mono (pick3 _ _ _ _)
  refine (fun a ha => wp_loopN (fun k a w => ∃ (x17 : Nat) (x18 : Bool) (x19 : (List Int)) (Z15 : Hp) (A20 : Option Addr) (cp21 : Nat), name_Quote.l0 a0 k x17 x18 x19 = some r1 ∧ Fr 57 [(0, .string a0), (3, pb b1), (8, pb b8)] a ∧ Inv w0 Z15 w (star (pt b8 (.stringIter a0 x17)) (star (ownS 5 (cI .u8) 1 A20 cp21 x19) (star (pt b1 (.cells ([selfP b1 x18, .slice A20 x19.length cp21] : LV).toArray 55 (0, 0))) A))) ∧ Z.le Z15) ?_ FU a w ⟨0, y4, y5, Z, A6, cp7, h1, ha.keep [0, 3, 8] (by kernel_rfl), hI, (Hp.le_refl _)⟩)
  clear h1 hI
  rintro k a w ⟨x17, x18, x19, Z15, A20, cp21, h1, ha, hI, hle16⟩
  rcases k with _ | k
  ·
   cases h1
  simp only [name_Quote.l0] at h1
  refine CodT.of ?_ ha
  refine cQ (cR [0, 1] ?_)
  by_cases hb22 : x17 < a0.size
  ·
   rw [if_pos hb22] at h1
   refine oC (Does.nextStr (d := 9) (b := b8) (pos := x17) (s := a0) (by kernel_rfl) hI hb22 ?_)
   intro w hI
   refine oP (r := []) [1] (S' := [(0, .string a0), (3, pb b1), (8, pb b8), (9, .tuple #[.bool true, iv (x17 : Int), .int .i32 (runeAt a0 x17)]), (10, .bool true)]) ?_
   refine oD (qT (cQ ?_))
   refine CodT.yes (by kernel_rfl) ?_
   refine jS (qT (jB (cQ (cR [0, 1, 2, 3] ?_))))
   refine oP (r := []) [0, 1, 2, 3] (S' := [(0, .string a0), (3, pb b1), (4, iv (x17 : Int)), (5, .int .i32 (runeAt a0 x17)), (8, pb b8)]) ?_
   refine oD (qT (jB ?_))
   obtain ⟨r2, h2, h1⟩ := bindS h1
   refine jM (fun a w => ∃ (x23 : Bool), x23 = r2 ∧ Fr 57 [(0, .string a0), (3, pb b1), (4, iv (x17 : Int)), (5, .int .i32 (runeAt a0 x17)), (8, pb b8), (15, .bool x23)] a ∧ Inv w0 Z15 w (star (pt b8 (.stringIter a0 (x17 + runeW a0 x17))) (star (pt b1 (.cells ([selfP b1 x18, .slice A20 x19.length cp21] : LV).toArray 55 (0, 0))) (star (ownS 5 (cI .u8) 1 A20 cp21 x19) A)))) ?_ ?_
   ·
    refine cR [0, 1, 2, 3, 4, 5, 6] ?_
    refine oP (r := [3, 4, 5, 6]) [0, 1, 2] (S' := [(0, .string a0), (3, pb b1), (4, iv (x17 : Int)), (5, .int .i32 (runeAt a0 x17)), (8, pb b8), (18, .bool ((runeAt a0 x17) == 34))]) ?_
    by_cases hb24 : ((runeAt a0 x17) == 34) = true
    ·
     rw [if_pos hb24] at h2
     refine OpsT.keep [0, 3, 4, 5, 8, 18] (S' := [(0, .string a0), (3, pb b1), (4, iv (x17 : Int)), (5, .int .i32 (runeAt a0 x17)), (8, pb b8), (18, .bool true)]) (by (try simp only [hb24]); kernel_rfl) ?_
     refine oP (r := []) [3, 4, 5, 6] (S' := [(0, .string a0), (3, pb b1), (4, iv (x17 : Int)), (5, .int .i32 (runeAt a0 x17)), (8, pb b8), (15, .bool true)]) ?_
     refine oD ?_
     have hI := hI.mono (pick2 _ _ _)
     have hI := hI.mono (pick3 _ _ _ _)
     have hI := hI.mono (pick3 _ _ _ _)
     have e := someS h2
     subst e
     exact jT fun a ha => ⟨true, rfl, ha.keep [0, 3, 4, 5, 8, 15] (by kernel_rfl), hI⟩
    ·
     rw [if_neg hb24] at h2
     have hb24 : ((runeAt a0 x17) == 34) = false := by simpa using hb24
     refine OpsT.keep [0, 3, 4, 5, 8, 18] (S' := [(0, .string a0), (3, pb b1), (4, iv (x17 : Int)), (5, .int .i32 (runeAt a0 x17)), (8, pb b8), (18, .bool false)]) (by (try simp only [hb24]); kernel_rfl) ?_
     refine oP (r := []) [3, 4, 5, 6] (S' := [(0, .string a0), (3, pb b1), (4, iv (x17 : Int)), (5, .int .i32 (runeAt a0 x17)), (8, pb b8), (15, .bool ((runeAt a0 x17) == 92))]) ?_
     refine oD ?_
     have hI := hI.mono (pick2 _ _ _)
     have hI := hI.mono (pick3 _ _ _ _)
     have hI := hI.mono (pick3 _ _ _ _)
     have e := someS h2
     subst e
     exact jT fun a ha => ⟨(runeAt a0 x17) == 92, rfl, ha.keep [0, 3, 4, 5, 8, 15] (by kernel_rfl), hI⟩
   ·
    rintro a w ⟨x23, rfl, ha, hI⟩
    try dsimp only at h1
    refine CodT.of ?_ ha
    by_cases hb25 : x23 = true
    ·
     rw [if_pos hb25] at h1
     refine cY (b := x23) hb25 ?_
     refine cQ (cR [0] ?_)
     have hI := hI.mono (pick3 _ _ _ _)
     have hI := hI.mono (pick3 _ _ _ _)
     obtain ⟨⟨y27, y28, y29⟩, hc26, h1⟩ := bindS h1
     try dsimp only at h1
     refine oC (jC (d := some 22) (n := 138) (vs := [pb b1, .int .u8 92]) (by kernel_rfl) en138 (c138 w0 w _ _ (hT.mono hle16) b1 x18 A20 cp21 x19 92 hI _ hc26) ?_)
     rintro e w ⟨A30, cp31, rfl, hI⟩
     refine ⟨_, rfl, ?_⟩
     refine oD (qT (cR [0, 1] ?_))
     refine oP (r := [1]) [0] (S' := [(0, .string a0), (3, pb b1), (8, pb b8), (23, .int .i32 (runeAt a0 x17))]) ?_
     have hI := hI.mono (pick2 _ _ _)
     have hI := hI.mono (pick2 _ _ _)
     obtain ⟨⟨y33, y34, y35, y36⟩, hc32, h1⟩ := bindS h1
     try dsimp only at h1
     refine oC (jC (d := some 24) (n := 139) (vs := [pb b1, .int .i32 (runeAt a0 x17)]) (by kernel_rfl) en139 (c139 w0 w _ _ (hT.mono hle16) b1 y28 A30 cp31 y29 (runeAt a0 x17) hI _ hc32) ?_)
     rintro e w ⟨A37, cp38, rfl, hI⟩
     refine ⟨_, rfl, ?_⟩
     refine oD (jN (jN ?_))
     have hI := hI.mono (pick2 _ _ _)
     have hI := hI.mono (pick3 _ _ _ _)
     exact jT fun a ha => ⟨k, Nat.lt_succ_self k, x17 + runeW a0 x17, y35, y36, Z15, A37, cp38, h1, ha.keep [0, 3, 8] (by kernel_rfl), hI, hle16⟩
    ·
     rw [if_neg hb25] at h1
     refine cN (b := x23) (by simpa using hb25) ?_
     refine cQ (cR [0, 1, 2] ?_)
     refine oP (r := []) [0, 1, 2] (S' := [(0, .string a0), (3, pb b1), (4, iv (x17 : Int)), (5, .int .i32 (runeAt a0 x17)), (8, pb b8), (25, .bool ((runeAt a0 x17) == 10))]) ?_
     refine oD (qT ?_)
     by_cases hb39 : ((runeAt a0 x17) == 10) = true
     ·
      rw [if_pos hb39] at h1
      refine cY (b := (runeAt a0 x17) == 10) hb39 ?_
      refine cR [0, 1] ?_
      refine oC (Does.buildSlice (en := (cI .u8)) (d := 28) (n := 2) (T := 52) (ps := [(0, .int .u8 92), (1, .int .u8 110)]) ([92, 110] : List Int) (by kernel_rfl) Go.Proofs.Tryz.underlying52 ty5 (by kernel_rfl) (by kernel_rfl) (by kernel_rfl) (by kernel_rfl) (len_all (fun _ => rfl)) hI ?_)
      intro b40 w hI
      obtain ⟨Z41, hle42, hr43, hI⟩ := ownS_freeze hI
      have hI := hI.mono (pick3 _ _ _ _)
      have hI := hI.mono (pick3 _ _ _ _)
      obtain ⟨⟨y45, y46, y47, y48⟩, hc44, h1⟩ := bindS h1
      try dsimp only at h1
      refine oC (jC (d := some 29) (n := 140) (vs := [pb b1, .slice (some ⟨b40, 0, none⟩) (([92, 110] : List Int).length) 2]) (by kernel_rfl) en140 (c140 w0 w _ _ (hT.mono (Hp.le_trans hle16 hle42)) b1 x18 A20 cp21 x19 (some ⟨b40, 0, none⟩) 2 ([92, 110] : List Int) hr43 hI _ hc44) ?_)
      rintro e w ⟨A49, cp50, rfl, hI⟩
      refine ⟨_, rfl, ?_⟩
      refine oD (jN (jN ?_))
      have hI := hI.mono (pick2 _ _ _)
      have hI := hI.mono (pick3 _ _ _ _)
      exact jT fun a ha => ⟨k, Nat.lt_succ_self k, x17 + runeW a0 x17, y47, y48, Z41, A49, cp50, h1, ha.keep [0, 3, 8] (by kernel_rfl), hI, (Hp.le_trans hle16 hle42)⟩
     ·
      rw [if_neg hb39] at h1
      refine cN (b := (runeAt a0 x17) == 10) (by simpa using hb39) ?_
      obtain ⟨r2, h2, h1⟩ := bindS h1
      refine jM (fun a w => ∃ (x51 : Bool), x51 = r2 ∧ Fr 57 [(0, .string a0), (3, pb b1), (4, iv (x17 : Int)), (5, .int .i32 (runeAt a0 x17)), (8, pb b8), (30, .bool x51)] a ∧ Inv w0 Z15 w (star (pt b8 (.stringIter a0 (x17 + runeW a0 x17))) (star (pt b1 (.cells ([selfP b1 x18, .slice A20 x19.length cp21] : LV).toArray 55 (0, 0))) (star (ownS 5 (cI .u8) 1 A20 cp21 x19) A)))) ?_ ?_
      ·
       refine cR [0, 1, 2, 3, 4, 5, 6, 7, 8, 9, 10, 11, 12] ?_
       refine oP (r := [3, 4, 5, 6, 7, 8, 9, 10, 11, 12]) [0, 1, 2] (S' := [(0, .string a0), (3, pb b1), (4, iv (x17 : Int)), (5, .int .i32 (runeAt a0 x17)), (8, pb b8), (33, .bool (decide ((runeAt a0 x17) < 32)))]) ?_
       by_cases hb52 : (decide ((runeAt a0 x17) < 32)) = true
       ·
        rw [if_pos hb52] at h2
        refine OpsT.keep [0, 3, 4, 5, 8, 33] (S' := [(0, .string a0), (3, pb b1), (4, iv (x17 : Int)), (5, .int .i32 (runeAt a0 x17)), (8, pb b8), (33, .bool true)]) (by (try simp only [hb52]); kernel_rfl) ?_
        refine oP (r := []) [3, 4, 5, 6, 7, 8, 9, 10, 11, 12] (S' := [(0, .string a0), (3, pb b1), (4, iv (x17 : Int)), (5, .int .i32 (runeAt a0 x17)), (8, pb b8), (30, .bool true)]) ?_
        refine oD ?_
        have e := someS h2
        subst e
        exact jT fun a ha => ⟨true, rfl, ha.keep [0, 3, 4, 5, 8, 30] (by kernel_rfl), hI⟩
       ·
        rw [if_neg hb52] at h2
        have hb52 : (decide ((runeAt a0 x17) < 32)) = false := by simpa using hb52
        refine OpsT.keep [0, 3, 4, 5, 8, 33] (S' := [(0, .string a0), (3, pb b1), (4, iv (x17 : Int)), (5, .int .i32 (runeAt a0 x17)), (8, pb b8), (33, .bool false)]) (by (try simp only [hb52]); kernel_rfl) ?_
        refine oP (r := [7, 8, 9, 10, 11, 12]) [3, 4, 5, 6] (S' := [(0, .string a0), (3, pb b1), (4, iv (x17 : Int)), (5, .int .i32 (runeAt a0 x17)), (8, pb b8), (37, .bool ((runeAt a0 x17) == 127))]) ?_
        by_cases hb53 : ((runeAt a0 x17) == 127) = true
        ·
         rw [if_pos hb53] at h2
         refine OpsT.keep [0, 3, 4, 5, 8, 37] (S' := [(0, .string a0), (3, pb b1), (4, iv (x17 : Int)), (5, .int .i32 (runeAt a0 x17)), (8, pb b8), (37, .bool true)]) (by (try simp only [hb53]); kernel_rfl) ?_
         refine oP (r := []) [7, 8, 9, 10, 11, 12] (S' := [(0, .string a0), (3, pb b1), (4, iv (x17 : Int)), (5, .int .i32 (runeAt a0 x17)), (8, pb b8), (30, .bool true)]) ?_
         refine oD ?_
         have e := someS h2
         subst e
         exact jT fun a ha => ⟨true, rfl, ha.keep [0, 3, 4, 5, 8, 30] (by kernel_rfl), hI⟩
        ·
         rw [if_neg hb53] at h2
         have hb53 : ((runeAt a0 x17) == 127) = false := by simpa using hb53
         refine OpsT.keep [0, 3, 4, 5, 8, 37] (S' := [(0, .string a0), (3, pb b1), (4, iv (x17 : Int)), (5, .int .i32 (runeAt a0 x17)), (8, pb b8), (37, .bool false)]) (by (try simp only [hb53]); kernel_rfl) ?_
         refine oP (r := [10, 11, 12]) [7, 8, 9] (S' := [(0, .string a0), (3, pb b1), (4, iv (x17 : Int)), (5, .int .i32 (runeAt a0 x17)), (8, pb b8), (37, .bool false), (38, .string a0), (39, iv (x17 : Int)), (40, .int .i32 (runeAt a0 x17))]) ?_
         obtain ⟨y55, hc54, h2⟩ := bindS h2
         try dsimp only at h2
         refine oC (jC (d := some 41) (n := 141) (vs := [.string a0, iv (x17 : Int), .int .i32 (runeAt a0 x17)]) (by kernel_rfl) en141 (c141 w0 w _ _ hI (hT.mono hle16) a0 (x17 : Int) (runeAt a0 x17) _ hc54) ?_)
         rintro e w ⟨rfl, hI⟩
         refine ⟨_, rfl, ?_⟩
         refine oP (r := []) [11, 12] (S' := [(0, .string a0), (3, pb b1), (4, iv (x17 : Int)), (5, .int .i32 (runeAt a0 x17)), (8, pb b8), (30, .bool y55)]) ?_
         refine oD ?_
         have e := someS h2
         subst e
         exact jT fun a ha => ⟨y55, rfl, ha.keep [0, 3, 4, 5, 8, 30] (by kernel_rfl), hI⟩
      ·
       rintro a w ⟨x51, rfl, ha, hI⟩
       try dsimp only at h1
       refine CodT.of ?_ ha
       by_cases hb56 : x51 = true
       ·
        rw [if_pos hb56] at h1
        refine cY (b := x51) hb56 ?_
        refine CodT.drawI (n := 12) [11] (by kernel_rfl) (by kernel_rfl) hI ?_
        intro w hI
        refine gP 0 43 (.string a0) ?_
        refine gP 1 44 (iv (x17 : Int)) ?_
        refine gP 5 48 (.string a0) ?_
        refine gP 6 49 (iv (x17 : Int)) ?_
        obtain ⟨hg57, h1⟩ := guardS h1
        refine gR (i := 2) 5 (Yl.indexStr (d := 45) (T := 9) (k := .i64) (j := (x17 : Int)) (s := a0) (by kernel_rfl) Go.Proofs.Tryz.underlying9 hg57.1 hg57.2) hI ?_
        refine gP 3 46 (.int .u8 (bShr .u8 (bt a0 (x17 : Int)) 4)) ?_
        obtain ⟨hg58, h1⟩ := guardS h1
        refine gR (i := 4) 3 (Yl.indexStr (d := 47) (T := 9) (k := .u8) (j := bShr .u8 (bt a0 (x17 : Int)) 4) (s := (⟨#[48, 49, 50, 51, 52, 53, 54, 55, 56, 57, 97, 98, 99, 100, 101, 102]⟩ : ByteArray)) (by kernel_rfl) Go.Proofs.Tryz.underlying9 hg58.1 hg58.2) hI ?_
        obtain ⟨hg59, h1⟩ := guardS h1
        refine gR (i := 7) 5 (Yl.indexStr (d := 50) (T := 9) (k := .i64) (j := (x17 : Int)) (s := a0) (by kernel_rfl) Go.Proofs.Tryz.underlying9 hg59.1 hg59.2) hI ?_
        refine gP 8 51 (.int .u8 (bAnd .u8 (bt a0 (x17 : Int)) 15)) ?_
        obtain ⟨hg60, h1⟩ := guardS h1
        refine gR (i := 9) 3 (Yl.indexStr (d := 52) (T := 9) (k := .u8) (j := bAnd .u8 (bt a0 (x17 : Int)) 15) (s := (⟨#[48, 49, 50, 51, 52, 53, 54, 55, 56, 57, 97, 98, 99, 100, 101, 102]⟩ : ByteArray)) (by kernel_rfl) Go.Proofs.Tryz.underlying9 hg60.1 hg60.2) hI ?_
        refine jO (i := 10) (by kernel_rfl) (Does.buildSlice (en := (cI .u8)) (d := 53) (n := 4) (T := 52) (ps := [(0, .int .u8 92), (1, .int .u8 120), (2, .int .u8 (bt (⟨#[48, 49, 50, 51, 52, 53, 54, 55, 56, 57, 97, 98, 99, 100, 101, 102]⟩ : ByteArray) (bShr .u8 (bt a0 (x17 : Int)) 4))), (3, .int .u8 (bt (⟨#[48, 49, 50, 51, 52, 53, 54, 55, 56, 57, 97, 98, 99, 100, 101, 102]⟩ : ByteArray) (bAnd .u8 (bt a0 (x17 : Int)) 15)))]) ([92, 120, bt (⟨#[48, 49, 50, 51, 52, 53, 54, 55, 56, 57, 97, 98, 99, 100, 101, 102]⟩ : ByteArray) (bShr .u8 (bt a0 (x17 : Int)) 4), bt (⟨#[48, 49, 50, 51, 52, 53, 54, 55, 56, 57, 97, 98, 99, 100, 101, 102]⟩ : ByteArray) (bAnd .u8 (bt a0 (x17 : Int)) 15)] : List Int) (by kernel_rfl) Go.Proofs.Tryz.underlying52 ty5 (by kernel_rfl) (by kernel_rfl) (by kernel_rfl) (by kernel_rfl) (len_all (fun _ => rfl)) hI ?_)
        intro b61 w hI
        have hC := hI
        have hC := hC.drop
        refine ⟨fun _ _ => hC, ?_⟩
        obtain ⟨Z62, hle63, hr64, hI⟩ := ownS_freeze hI
        have hI := hI.mono (pick3 _ _ _ _)
        have hI := hI.mono (pick3 _ _ _ _)
        obtain ⟨⟨y66, y67, y68, y69⟩, hc65, h1⟩ := bindS h1
        try dsimp only at h1
        refine jO (i := 11) (by kernel_rfl) (jC (d := some 54) (n := 140) (vs := [pb b1, .slice (some ⟨b61, 0, none⟩) (([92, 120, bt (⟨#[48, 49, 50, 51, 52, 53, 54, 55, 56, 57, 97, 98, 99, 100, 101, 102]⟩ : ByteArray) (bShr .u8 (bt a0 (x17 : Int)) 4), bt (⟨#[48, 49, 50, 51, 52, 53, 54, 55, 56, 57, 97, 98, 99, 100, 101, 102]⟩ : ByteArray) (bAnd .u8 (bt a0 (x17 : Int)) 15)] : List Int).length) 4]) (by kernel_rfl) en140 (c140 w0 w _ _ (hT.mono (Hp.le_trans hle16 hle63)) b1 x18 A20 cp21 x19 (some ⟨b61, 0, none⟩) 4 ([92, 120, bt (⟨#[48, 49, 50, 51, 52, 53, 54, 55, 56, 57, 97, 98, 99, 100, 101, 102]⟩ : ByteArray) (bShr .u8 (bt a0 (x17 : Int)) 4), bt (⟨#[48, 49, 50, 51, 52, 53, 54, 55, 56, 57, 97, 98, 99, 100, 101, 102]⟩ : ByteArray) (bAnd .u8 (bt a0 (x17 : Int)) 15)] : List Int) hr64 hI _ hc65) ?_)
        rintro e w ⟨A70, cp71, rfl, hI⟩
        refine ⟨_, rfl, ?_⟩
        refine ⟨fun h => absurd h (by decide), ?_⟩
        refine jD (by kernel_rfl) ?_
        refine jN (jN ?_)
        have hI := hI.mono (pick2 _ _ _)
        have hI := hI.mono (pick3 _ _ _ _)
        exact jT fun a ha => ⟨k, Nat.lt_succ_self k, x17 + runeW a0 x17, y68, y69, Z62, A70, cp71, h1, ha.keep [0, 3, 8] (by kernel_rfl), hI, (Hp.le_trans hle16 hle63)⟩
       ·
        rw [if_neg hb56] at h1
        refine cN (b := x51) (by simpa using hb56) ?_
        refine cR [0, 1] ?_
        refine oP (r := [1]) [0] (S' := [(0, .string a0), (3, pb b1), (8, pb b8), (13, .int .i32 (runeAt a0 x17))]) ?_
        have hI := hI.mono (pick3 _ _ _ _)
        have hI := hI.mono (pick3 _ _ _ _)
        obtain ⟨⟨y73, y74, y75, y76⟩, hc72, h1⟩ := bindS h1
        try dsimp only at h1
        refine oC (jC (d := some 14) (n := 139) (vs := [pb b1, .int .i32 (runeAt a0 x17)]) (by kernel_rfl) en139 (c139 w0 w _ _ (hT.mono hle16) b1 x18 A20 cp21 x19 (runeAt a0 x17) hI _ hc72) ?_)
        rintro e w ⟨A77, cp78, rfl, hI⟩
        refine ⟨_, rfl, ?_⟩
        refine oD (jN (jN ?_))
        have hI := hI.mono (pick2 _ _ _)
        have hI := hI.mono (pick3 _ _ _ _)
        exact jT fun a ha => ⟨k, Nat.lt_succ_self k, x17 + runeW a0 x17, y75, y76, Z15, A77, cp78, h1, ha.keep [0, 3, 8] (by kernel_rfl), hI, hle16⟩
  ·
   rw [if_neg hb22] at h1
   refine oC (Does.nextEnd (d := 9) (b := b8) (pos := x17) (s := a0) (by kernel_rfl) hI hb22 ?_)
   refine oP (r := []) [1] (S' := [(0, .string a0), (3, pb b1), (8, pb b8), (9, .tuple #[.bool false]), (10, .bool false)]) ?_
   refine oD (qT (cQ ?_))
   refine CodT.no (by kernel_rfl) ?_
   refine jZ ?_
   refine jX (jX ?_)
   refine Qn.block ?_
   have hI := hI.drop
   have e := someS h1
   subst e
   exact jT fun a ha => ⟨x18, x19, Z15, A20, cp21, rfl, ha.keep [3] (by kernel_rfl), hI, hle16⟩
 ·
  rintro a w ⟨x11, x12, Z9, A13, cp14, rfl, ha, hI, hle10⟩
  try dsimp only at h0
  refine Qn.of ?_ ha
  refine qT (cQ (cR [0] ?_))
  have hI := hI.mono (pick2 _ _ _)
  obtain ⟨⟨y80, y81, y82⟩, hc79, h0⟩ := bindS h0
  try dsimp only at h0
  refine oC (jC (d := some 55) (n := 138) (vs := [pb b1, .int .u8 34]) (by kernel_rfl) en138 (c138 w0 w _ _ (hT.mono hle10) b1 x11 A13 cp14 x12 34 hI _ hc79) ?_)
  rintro e w ⟨A83, cp84, rfl, hI⟩
  refine ⟨_, rfl, ?_⟩
  refine oD (qT (cQ (cR [0, 1] ?_)))
  have hI := hI.mono (pick2 _ _ _)
  have hI := hI.mono (pick2 _ _ _)
  obtain ⟨⟨y86, y87, y88⟩, hc85, h0⟩ := bindS h0
  try dsimp only at h0
  refine oC (jC (d := some 56) (n := 26) (vs := [pb b1]) (by kernel_rfl) en26 (c26 w0 w _ _ (hT.mono hle10) b1 y81 A83 cp84 y82 hI _ hc85) ?_)
  rintro e w ⟨A89, cp90, Z92, hle93, rfl, hr91, hI⟩
  refine ⟨_, rfl, ?_⟩
  refine oP (r := []) [1] (S' := [(2, .string y86)]) ?_
  refine oD (qT (jE ?_))
  have hI := hI.drop
  have e := someS h0
  subst e
  refine qK [2] (S' := [(2, .string y86)]) ?_
  exact post_ret (v := .string y86) (fun a ha => jU (vs := [.string y86]) (.tmp (t := 2) (by kernel_rfl) .nil) ha (by kernel_rfl)) ⟨rfl, hI.weaken (Hp.le_trans hle10 hle93)⟩
/-- (cenotaph/event.text).show -/
theorem c136 (w0 w : World) (Z : Hp) (A : HP) (hI : Inv w0 Z w A) (hT : Tabs Z) (a0 : ByteArray) (r : ByteArray) (h0 : event_text_show a0 = some r) :
  Calls prog 136 #[.string a0] w (fun e w' => e = .returned (.string r) ∧ Inv w0 Z w' A) := by
 have e4 := calls_intro (R := (fun e w' => e = .returned (.string r) ∧ Inv w0 Z w' A)) (w := w) (args := [.string a0]) (fn := Go.Proofs.Tryz.f136) 5 Go.Proofs.Tryz.func136 (by rfl) Go.Proofs.Tryz.ntmps136 (by kernel_rfl)
 refine e4 ?_
 clear e4
 unfold event_text_show at h0
 refine cQ (cR [0] ?_)
 refine oP (r := []) [0] (S' := [(0, .string a0)]) ?_
 refine oD (qT (cQ (cR [0, 1, 2] ?_)))
 refine oP (r := [1, 2]) [0] (S' := [(3, .string a0)]) ?_
 obtain ⟨y2, hc1, h0⟩ := bindS h0
 try dsimp only at h0
 refine oC (jC (d := some 4) (n := 137) (vs := [.string a0]) (by kernel_rfl) en137 (c137 w0 w _ _ hI hT a0 _ hc1) ?_)
 rintro e w ⟨rfl, hI⟩
 refine ⟨_, rfl, ?_⟩
 refine oP (r := []) [2] (S' := [(2, .string y2)]) ?_
 refine oD (qT (jE ?_))
 have e := someS h0
 subst e
 refine qK [2] (S' := [(2, .string y2)]) ?_
 exact post_ret (v := .string y2) (fun a ha => jU (vs := [.string y2]) (.tmp (t := 2) (by kernel_rfl) .nil) ha (by kernel_rfl)) ⟨rfl, hI⟩
/-- (cenotaph/event.number).show -/
theorem c147 (w0 w : World) (Z : Hp) (A : HP) (hI : Inv w0 Z w A) (hT : Tabs Z) (a0 : Int) (r : ByteArray) (h0 : event_number_show a0 = some r) :
  Calls prog 147 #[iv a0] w (fun e w' => e = .returned (.string r) ∧ Inv w0 Z w' A) := by
 have e4 := calls_intro (R := (fun e w' => e = .returned (.string r) ∧ Inv w0 Z w' A)) (w := w) (args := [iv a0]) (fn := Go.Proofs.Tryz.f147) 5 Go.Proofs.Tryz.func147 (by rfl) Go.Proofs.Tryz.ntmps147 (by kernel_rfl)
 refine e4 ?_
 clear e4
 unfold event_number_show at h0
 refine cQ (cR [0] ?_)
 refine oP (r := []) [0] (S' := [(0, iv a0)]) ?_
 refine oD (qT (cQ (cR [0, 1, 2] ?_)))
 refine oP (r := [1, 2]) [0] (S' := [(3, iv a0)]) ?_
 obtain ⟨y2, hc1, h0⟩ := bindS h0
 try dsimp only at h0
 refine oC (jC (d := some 4) (n := 32) (vs := [iv a0]) (by kernel_rfl) en32 (c32 w0 w _ _ hI hT a0 _ hc1) ?_)
 rintro e w ⟨rfl, hI⟩
 refine ⟨_, rfl, ?_⟩
 refine oP (r := []) [2] (S' := [(2, .string y2)]) ?_
 refine oD (qT (jE ?_))
 have e := someS h0
 subst e
 refine qK [2] (S' := [(2, .string y2)]) ?_
 exact post_ret (v := .string y2) (fun a ha => jU (vs := [.string y2]) (.tmp (t := 2) (by kernel_rfl) .nil) ha (by kernel_rfl)) ⟨rfl, hI⟩
/-- cenotaph/sha.Text -/
theorem c150 (w0 w : World) (Z : Hp) (A : HP) (hI : Inv w0 Z w A) (hT : Tabs Z) (a0 : (List Int)) (hl_a0 : a0.length = 32) (r : ByteArray) (h0 : sha_Text a0 = some r) :
  Calls prog 150 #[.agg (q8c a0).toArray] w (fun e w' => e = .returned (.string r) ∧ Inv w0 Z w' A) := by
 have e4 := calls_intro (R := (fun e w' => e = .returned (.string r) ∧ Inv w0 Z w' A)) (w := w) (args := [.agg (q8c a0).toArray]) (fn := Go.Proofs.Tryz.f150) 22 Go.Proofs.Tryz.func150 (by rfl) Go.Proofs.Tryz.ntmps150 (by kernel_rfl)
 refine e4 ?_
 clear e4
 unfold sha_Text at h0
 refine cQ (cR [0, 1] ?_)
 refine oC (Does.boxL (d := 1) (T := 23) (v := .agg (q8c a0).toArray) (q8c a0) (by kernel_rfl) hI (by kernel_rfl) ?_)
 intro b1 w hI
 refine oP (r := []) [1] (S' := [(1, pb b1)]) ?_
 refine oD (qT (cQ (cR [0] ?_)))
 refine oP (r := []) [0] (S' := [(1, pb b1), (3, .slice none 0 0)]) ?_
 refine oD (qT (cQ (cQ (cR [0, 1] ?_))))
 refine oC (jY (jL (d := 6) (T := 23) (v := .agg (q8c a0).toArray) (by kernel_rfl) (ldBN ty23 (l := cA (Value.int .u8) a0) (o := 0) (cs := cA (Value.int .u8) a0) (ent_refl _) ((cA_length _ _).trans hl_a0) (whole _ _ ((cA_length _ _).trans hl_a0)))) hI ?_)
 refine oP (r := []) [1] (S' := [(3, .slice none 0 0), (6, .agg (q8c a0).toArray), (7, iv 0)]) ?_
 refine oD (qT ?_)
 obtain ⟨r1, h1, h0⟩ := bindS h0
 refine CodT.meet1 (fun a w => ∃ (x2 : (List Int)) (A3 : Option Addr) (cp4 : Nat), x2 = r1 ∧ Fr 22 [(3, .slice A3 x2.length cp4)] a ∧ Inv w0 Z w (star (ownS 5 (cI .u8) 1 A3 cp4 x2) A)) ?_ ?_
 ·
  refine jB ?_
  have hI := ownS_nil (α := Int) hI 5 (cI .u8) 1
  have hI := hI.mono (pick2 _ _ _)
  have hI := hI.drop
  refine (fun a ha => wp_loopN (fun k a w => ∃ (x5 : (List Int)) (x8 : Int) (A6 : Option Addr) (cp7 : Nat), sha_Text.l0 a0 k x5 x8 = some r1 ∧ Fr 22 [(3, .slice A6 x5.length cp7), (6, .agg (q8c a0).toArray), (7, iv x8)] a ∧ Inv w0 Z w (star (ownS 5 (cI .u8) 1 A6 cp7 x5) A)) ?_ FU a w ⟨([] : List Int), 0, none, 0, h1, ha.keep [3, 6, 7] (by kernel_rfl), hI⟩)
  clear h1 hI
  rintro k a w ⟨x5, x8, A6, cp7, h1, ha, hI⟩
  rcases k with _ | k
  ·
   cases h1
  simp only [sha_Text.l0] at h1
  refine CodT.of ?_ ha
  refine cQ (cR [0] ?_)
  refine oP (r := []) [0] (S' := [(3, .slice A6 x5.length cp7), (6, .agg (q8c a0).toArray), (7, iv x8), (8, .bool (decide (x8 < 32)))]) ?_
  refine oD (qT (cQ ?_))
  by_cases hb9 : (decide (x8 < 32)) = true
  ·
   rw [if_pos hb9] at h1
   refine cY (b := decide (x8 < 32)) hb9 ?_
   refine jS (qT (cQ (jB (cQ (cR [0, 1] ?_)))))
   obtain ⟨hg10, h1⟩ := guardS h1
   refine oC (jY (Yl.indexAgg (d := 9) (T := 23) (k := .i64) (j := x8) (l := cA (Value.int .u8) a0) (v := .int .u8 (gt a0 x8)) (by kernel_rfl) Go.Proofs.Tryz.underlying23 ty5 hg10.1 hg10.2 (arr_get' _ _ hg10.1 (by have := And.intro hl_a0 hg10.2; omega))) hI ?_)
   refine oP (r := []) [1] (S' := [(3, .slice A6 x5.length cp7), (5, .int .u8 (gt a0 x8)), (6, .agg (q8c a0).toArray), (7, iv x8)]) ?_
   refine oD (qT ?_)
   refine CodT.drawI (n := 10) [8] (by kernel_rfl) (by kernel_rfl) hI ?_
   intro w hI
   refine gP 0 10 (.slice A6 x5.length cp7) ?_
   refine gP 1 11 (.int .u8 (gt a0 x8)) ?_
   refine gP 2 12 (.int .u8 (bShr .u8 (gt a0 x8) 4)) ?_
   refine gP 4 14 (.int .u8 (gt a0 x8)) ?_
   refine gP 5 15 (.int .u8 (bAnd .u8 (gt a0 x8) 15)) ?_
   obtain ⟨hg11, h1⟩ := guardS h1
   refine gR (i := 3) 3 (Yl.indexStr (d := 13) (T := 9) (k := .u8) (j := bShr .u8 (gt a0 x8) 4) (s := (⟨#[48, 49, 50, 51, 52, 53, 54, 55, 56, 57, 97, 98, 99, 100, 101, 102]⟩ : ByteArray)) (by kernel_rfl) Go.Proofs.Tryz.underlying9 hg11.1 hg11.2) hI ?_
   obtain ⟨hg12, h1⟩ := guardS h1
   refine gR (i := 6) 3 (Yl.indexStr (d := 16) (T := 9) (k := .u8) (j := bAnd .u8 (gt a0 x8) 15) (s := (⟨#[48, 49, 50, 51, 52, 53, 54, 55, 56, 57, 97, 98, 99, 100, 101, 102]⟩ : ByteArray)) (by kernel_rfl) Go.Proofs.Tryz.underlying9 hg12.1 hg12.2) hI ?_
   refine jO (i := 7) (by kernel_rfl) (Does.buildSlice (en := (cI .u8)) (d := 17) (n := 2) (T := 52) (ps := [(0, .int .u8 (bt (⟨#[48, 49, 50, 51, 52, 53, 54, 55, 56, 57, 97, 98, 99, 100, 101, 102]⟩ : ByteArray) (bShr .u8 (gt a0 x8) 4))), (1, .int .u8 (bt (⟨#[48, 49, 50, 51, 52, 53, 54, 55, 56, 57, 97, 98, 99, 100, 101, 102]⟩ : ByteArray) (bAnd .u8 (gt a0 x8) 15)))]) ([bt (⟨#[48, 49, 50, 51, 52, 53, 54, 55, 56, 57, 97, 98, 99, 100, 101, 102]⟩ : ByteArray) (bShr .u8 (gt a0 x8) 4), bt (⟨#[48, 49, 50, 51, 52, 53, 54, 55, 56, 57, 97, 98, 99, 100, 101, 102]⟩ : ByteArray) (bAnd .u8 (gt a0 x8) 15)] : List Int) (by kernel_rfl) Go.Proofs.Tryz.underlying52 ty5 (by kernel_rfl) (by kernel_rfl) (by kernel_rfl) (by kernel_rfl) (len_all (fun _ => rfl)) hI ?_)
   intro b13 w hI
   have hC := hI
   have hC := hC.drop
   refine ⟨fun _ _ => hC, ?_⟩
   obtain ⟨hg14, h1⟩ := guardS h1
   have hI := hI.mono (pick2 _ _ _)
   refine jO (i := 8) (by kernel_rfl) (Does.append (d := 18) (t := 52) (tx := 52) (ty := 52) (ys := x5) (zs := ([bt (⟨#[48, 49, 50, 51, 52, 53, 54, 55, 56, 57, 97, 98, 99, 100, 101, 102]⟩ : ByteArray) (bShr .u8 (gt a0 x8) 4), bt (⟨#[48, 49, 50, 51, 52, 53, 54, 55, 56, 57, 97, 98, 99, 100, 101, 102]⟩ : ByteArray) (bAnd .u8 (gt a0 x8) 15)] : List Int)) (x := .slice (some ⟨b13, 0, none⟩) (([bt (⟨#[48, 49, 50, 51, 52, 53, 54, 55, 56, 57, 97, 98, 99, 100, 101, 102]⟩ : ByteArray) (bShr .u8 (gt a0 x8) 4), bt (⟨#[48, 49, 50, 51, 52, 53, 54, 55, 56, 57, 97, 98, 99, 100, 101, 102]⟩ : ByteArray) (bAnd .u8 (gt a0 x8) 15)] : List Int).length) 2) (by kernel_rfl) Go.Proofs.Tryz.underlying52 ty5 (by kernel_rfl) hI (src_own Go.Proofs.Tryz.underlying52 (hI.mono (pick2 _ _ _)) (one_flat _ (fun _ => rfl))) (ownS_facts (hI.mono (pick2 _ _ _))).2.2 (by unfold LIM at hg14; omega) hg14 ?_)
   intro A15 cp16 w hI
   refine ⟨fun h => absurd h (by decide), ?_⟩
   refine gP 9 3 (.slice A15 ((x5 ++ ([bt (⟨#[48, 49, 50, 51, 52, 53, 54, 55, 56, 57, 97, 98, 99, 100, 101, 102]⟩ : ByteArray) (bShr .u8 (gt a0 x8) 4), bt (⟨#[48, 49, 50, 51, 52, 53, 54, 55, 56, 57, 97, 98, 99, 100, 101, 102]⟩ : ByteArray) (bAnd .u8 (gt a0 x8) 15)] : List Int)).length) cp16) ?_
   refine jD (by kernel_rfl) ?_
   refine jN (qT (cR [0, 1] ?_))
   refine oP (r := []) [0, 1] (S' := [(3, .slice A15 ((x5 ++ ([bt (⟨#[48, 49, 50, 51, 52, 53, 54, 55, 56, 57, 97, 98, 99, 100, 101, 102]⟩ : ByteArray) (bShr .u8 (gt a0 x8) 4), bt (⟨#[48, 49, 50, 51, 52, 53, 54, 55, 56, 57, 97, 98, 99, 100, 101, 102]⟩ : ByteArray) (bAnd .u8 (gt a0 x8) 15)] : List Int)).length) cp16), (6, .agg (q8c a0).toArray), (7, iv (wi64 (x8 + 1)))]) ?_
   refine oD ?_
   have hI := hI.mono (pick2 _ _ _)
   have hI := hI.drop
   exact jT fun a ha => ⟨k, Nat.lt_succ_self k, x5 ++ ([bt (⟨#[48, 49, 50, 51, 52, 53, 54, 55, 56, 57, 97, 98, 99, 100, 101, 102]⟩ : ByteArray) (bShr .u8 (gt a0 x8) 4), bt (⟨#[48, 49, 50, 51, 52, 53, 54, 55, 56, 57, 97, 98, 99, 100, 101, 102]⟩ : ByteArray) (bAnd .u8 (gt a0 x8) 15)] : List Int), wi64 (x8 + 1), A15, cp16, h1, ha.keep [3, 6, 7] (by kernel_rfl), hI⟩
  ·
   rw [if_neg hb9] at h1
   refine cN (b := decide (x8 < 32)) (by simpa using hb9) ?_
   refine jZ ?_
   refine jX (jX ?_)
   refine Qn.block ?_
   have e := someS h1
   subst e
   exact jT fun a ha => ⟨x5, A6, cp7, rfl, ha.keep [3] (by kernel_rfl), hI⟩
 ·
  rintro a w ⟨x2, A3, cp4, rfl, ha, hI⟩
  try dsimp only at h0
  refine Qn.of ?_ ha
  refine qT (cQ (cR [0, 1, 2] ?_))
  refine oP (r := [1, 2]) [0] (S' := [(20, .slice A3 x2.length cp4)]) ?_
  refine oC (Does.b2sOwn (d := 21) (src := 52) (dst := 9) (xs := x2) (by kernel_rfl) Go.Proofs.Tryz.underlying52 Go.Proofs.Tryz.underlying5 Go.Proofs.Tryz.underlying9 hI ?_)
  refine oP (r := []) [2] (S' := [(2, .string (strOfNums x2))]) ?_
  refine oD (qT (jE ?_))
  have hI := hI.drop
  have e := someS h0
  subst e
  refine qK [2] (S' := [(2, .string (strOfNums x2))]) ?_
  exact post_ret (v := .string (strOfNums x2)) (fun a ha => jU (vs := [.string (strOfNums x2)]) (.tmp (t := 2) (by kernel_rfl) .nil) ha (by kernel_rfl)) ⟨rfl, hI⟩
/-- (cenotaph/event.sum).show -/
theorem c149 (w0 w : World) (Z : Hp) (A : HP) (hI : Inv w0 Z w A) (hT : Tabs Z) (a0 : (List Int)) (hl_a0 : a0.length = 32) (r : ByteArray) (h0 : event_sum_show a0 = some r) :
  Calls prog 149 #[.agg (q8c a0).toArray] w (fun e w' => e = .returned (.string r) ∧ Inv w0 Z w' A) := by
 have e4 := calls_intro (R := (fun e w' => e = .returned (.string r) ∧ Inv w0 Z w' A)) (w := w) (args := [.agg (q8c a0).toArray]) (fn := Go.Proofs.Tryz.f149) 6 Go.Proofs.Tryz.func149 (by rfl) Go.Proofs.Tryz.ntmps149 (by kernel_rfl)
 refine e4 ?_
 clear e4
 unfold event_sum_show at h0
 refine cQ (cR [0, 1] ?_)
 refine oC (Does.boxL (d := 1) (T := 112) (v := .agg (q8c a0).toArray) (q8c a0) (by kernel_rfl) hI (by kernel_rfl) ?_)
 intro b1 w hI
 refine oP (r := []) [1] (S' := [(1, pb b1)]) ?_
 refine oD (qT (cQ (cR [0, 1, 2, 3] ?_)))
 refine oC (jY (jL (d := 3) (T := 112) (v := .agg (q8c a0).toArray) (by kernel_rfl) (ldBN ty112 (l := cA (Value.int .u8) a0) (o := 0) (cs := cA (Value.int .u8) a0) (ent_refl _) ((cA_length _ _).trans hl_a0) (whole _ _ ((cA_length _ _).trans hl_a0)))) hI ?_)
 obtain ⟨y3, hc2, h0⟩ := bindS h0
 try dsimp only at h0
 refine oC (jC (d := some 4) (n := 150) (vs := [.agg (q8c a0).toArray]) (by kernel_rfl) en150 (c150 w0 w _ _ hI hT a0 hl_a0 _ hc2) ?_)
 rintro e w ⟨rfl, hI⟩
 refine ⟨_, rfl, ?_⟩
 obtain ⟨hg4, h0⟩ := guardS h0
 refine oC (jY (Yl.sliceStr01 (d := 5) (T := 9) (s := y3) (hi := 8) (by kernel_rfl) Go.Proofs.Tryz.underlying9 hg4) hI ?_)
 refine oP (r := []) [3] (S' := [(2, .string (sx y3 0 8))]) ?_
 refine oD (qT (jE ?_))
 have hI := hI.drop
 have e := someS h0
 subst e
 refine qK [2] (S' := [(2, .string (sx y3 0 8))]) ?_
 exact post_ret (v := .string (sx y3 0 8)) (fun a ha => jU (vs := [.string (sx y3 0 8)]) (.tmp (t := 2) (by kernel_rfl) .nil) ha (by kernel_rfl)) ⟨rfl, hI⟩
/-- cenotaph/event.Show -/
theorem c33 (w0 w : World) (Z : Hp) (A : HP) (hI : Inv w0 Z w A) (hT : Tabs Z) (a0 : ApiEvent) (hl1 : a0.Sum.length = 32) (r : ByteArray) (h0 : event_Show a0 = some r) :
  Calls prog 33 #[.agg (c_ApiEvent a0).toArray] w (fun e w' => e = .returned (.string r) ∧ Inv w0 Z w' A) := by
 have e4 := calls_intro (R := (fun e w' => e = .returned (.string r) ∧ Inv w0 Z w' A)) (w := w) (args := [.agg (c_ApiEvent a0).toArray]) (fn := Go.Proofs.Tryz.f33) 27 Go.Proofs.Tryz.func33 (by rfl) Go.Proofs.Tryz.ntmps33 (by kernel_rfl)
 refine e4 ?_
 clear e4
 unfold event_Show at h0
 refine cQ (cR [0, 1] ?_)
 refine oC (Does.boxL (d := 1) (T := 50) (v := .agg (c_ApiEvent a0).toArray) (c_ApiEvent a0) (by kernel_rfl) hI (by kernel_rfl) ?_)
 intro b2 w hI
 refine oP (r := []) [1] (S' := [(1, pb b2)]) ?_
 refine oD (qT (cQ (cQ (cR [0, 1, 2] ?_))))
 refine oC (jY (jL (d := 6) (T := 50) (v := .agg (c_ApiEvent a0).toArray) (by kernel_rfl) (ldBN ty50 (l := c_ApiEvent a0) (o := 0) (cs := c_ApiEvent a0) (ent_refl _) (len_ApiEvent _ hl1) (whole _ _ (len_ApiEvent _ hl1)))) hI ?_)
 obtain ⟨y4, hc3, h0⟩ := bindS h0
 try dsimp only at h0
 refine oC (jC (d := some 7) (n := 51) (vs := [.agg (c_ApiEvent a0).toArray]) (by kernel_rfl) en51 (c51 w0 w _ _ hI hT a0 hl1 _ hc3) ?_)
 rintro e w ⟨rfl, hI⟩
 refine ⟨_, rfl, ?_⟩
 refine oP (r := []) [2] (S' := [(1, pb b2), (8, .bool (!y4))]) ?_
 refine oD (qT ?_)
 by_cases hb5 : (!y4) = true
 ·
  rw [if_pos hb5] at h0
  refine cY (b := !y4) hb5 ?_
  refine cQ (cR [0] ?_)
  refine oP (r := []) [0] (S' := [(2, .string (⟨#[63]⟩ : ByteArray))]) ?_
  refine oD (qT (jE (jR ?_)))
  have hI := hI.drop
  have e := someS h0
  subst e
  refine qK [2] (S' := [(2, .string (⟨#[63]⟩ : ByteArray))]) ?_
  exact post_ret (v := .string (⟨#[63]⟩ : ByteArray)) (fun a ha => jU (vs := [.string (⟨#[63]⟩ : ByteArray)]) (.tmp (t := 2) (by kernel_rfl) .nil) ha (by kernel_rfl)) ⟨rfl, hI⟩
 ·
  rw [if_neg hb5] at h0
  refine cN (b := !y4) (by simpa using hb5) ?_
  refine jS (qT (cQ ?_))
  refine CodT.drawI (n := 5) [] (by kernel_rfl) (by kernel_rfl) hI ?_
  intro w hI
  refine gP 1 10 (pb b2) ?_
  refine gR (i := 2) 2 (jL (d := 11) (T := 48) (v := iv a0.Kind) (by kernel_rfl) (ldB ty48 (l := c_ApiEvent a0) (o := 0) (v := iv a0.Kind) (ent_refl _) (by kernel_rfl))) hI ?_
  obtain ⟨y7, hc6, h0⟩ := bindS h0
  try dsimp only at h0
  refine jO (i := 0) (by kernel_rfl) (jC (d := some 9) (n := 57) (vs := []) (by kernel_rfl) en57 (c57 w0 w _ _ hI hT _ hc6) ?_)
  rintro e w ⟨rfl, hl8, hI⟩
  refine ⟨_, rfl, ?_⟩
  refine ⟨fun _ _ => hI, ?_⟩
  obtain ⟨hg9, h0⟩ := guardS h0
  refine gR (i := 3) 2 (Yl.indexAgg (d := 12) (T := 92) (k := .i64) (j := a0.Kind) (l := cA Value.string y7) (v := .string (gt y7 a0.Kind)) (by kernel_rfl) Go.Proofs.Tryz.underlying92 ty9 hg9.1 hg9.2 (arr_get' _ _ hg9.1 (by have := And.intro hl8 hg9.2; omega))) hI ?_
  refine gP 4 3 (.string (gt y7 a0.Kind)) ?_
  refine jD (by kernel_rfl) ?_
  refine qT (cQ (cQ (cR [0, 1, 2, 3] ?_)))
  refine oC (jY (jL (d := 13) (T := 50) (v := .agg (c_ApiEvent a0).toArray) (by kernel_rfl) (ldBN ty50 (l := c_ApiEvent a0) (o := 0) (cs := c_ApiEvent a0) (ent_refl _) (len_ApiEvent _ hl1) (whole _ _ (len_ApiEvent _ hl1)))) hI ?_)
  obtain ⟨y11, hc10, h0⟩ := bindS h0
  try dsimp only at h0
  refine oC (jC (d := some 14) (n := 52) (vs := [.agg (c_ApiEvent a0).toArray]) (by kernel_rfl) en52 (c52 w0 w _ _ hI hT a0 hl1 _ hc10) ?_)
  rintro e w ⟨A12, cp13, rfl, hI⟩
  refine ⟨_, rfl, ?_⟩
  refine oP (r := []) [2, 3] (S' := [(3, .string (gt y7 a0.Kind)), (14, .slice A12 y11.length cp13), (15, iv (y11.length : Int)), (16, iv 0)]) ?_
  refine oD (qT ?_)
  obtain ⟨r1, h1, h0⟩ := bindS h0
  refine CodT.meet1 (fun a w => ∃ (x14 : ByteArray), x14 = r1 ∧ Fr 27 [(3, .string x14)] a ∧ Inv w0 Z w A) ?_ ?_
  ·
   refine jB ?_
   have hI := hI.mono (pick2 _ _ _)
   have hI := hI.drop
   refine (fun a ha => wp_loopN (fun k a w => ∃ (x15 : ByteArray) (x16 : Int), event_Show.l0 y11 k x15 x16 = some r1 ∧ Fr 27 [(3, .string x15), (14, .slice A12 y11.length cp13), (15, iv (y11.length : Int)), (16, iv x16)] a ∧ Inv w0 Z w (star (ownS 88 cD88 1 A12 cp13 y11) A)) ?_ FU a w ⟨gt y7 a0.Kind, 0, h1, ha.keep [3, 14, 15, 16] (by kernel_rfl), hI⟩)
   clear h1 hI
   rintro k a w ⟨x15, x16, h1, ha, hI⟩
   rcases k with _ | k
   ·
    cases h1
   simp only [event_Show.l0] at h1
   refine CodT.of ?_ ha
   refine cQ (cR [0] ?_)
   refine oP (r := []) [0] (S' := [(3, .string x15), (14, .slice A12 y11.length cp13), (15, iv (y11.length : Int)), (16, iv x16), (17, .bool (decide (x16 < (y11.length : Int))))]) ?_
   refine oD (qT (cQ ?_))
   by_cases hb17 : (decide (x16 < (y11.length : Int))) = true
   ·
    rw [if_pos hb17] at h1
    refine cY (b := decide (x16 < (y11.length : Int))) hb17 ?_
    refine jS (qT ?_)
    obtain ⟨r2, h2, h1⟩ := bindS h1
    refine jM (fun a w => ∃ (x18 : ByteArray), x18 = r2 ∧ Fr 27 [(3, .string x18), (14, .slice A12 y11.length cp13), (15, iv (y11.length : Int)), (16, iv x16)] a ∧ Inv w0 Z w (star (ownS 88 cD88 1 A12 cp13 y11) A)) ?_ ?_
    ·
     refine jB (cQ (cR [0, 1, 2] ?_))
     obtain ⟨hg19, h2⟩ := guardS h2
     obtain ⟨g20, hA21, hr22, hl23⟩ := ownS_get hI hg19.1 hg19.2
     refine oC (jY (Yl.indexSlice (d := 18) (T := 85) (cc := cp13) (k := .i64) (j := x16) (g := g20) (o := 0) (by kernel_rfl) Go.Proofs.Tryz.underlying85 ty88 hA21 hg19.1 hg19.2) hI ?_)
     refine oC (jY (jL (d := 19) (T := 88) (v := dynV88 (gt y11 x16)) (by kernel_rfl) (ldR ty88 (v := dynV88 (gt y11 x16)) 0 (fun w hC => hr22 w0 w _ hC) (by kernel_rfl))) hI ?_)
     refine oP (r := []) [2] (S' := [(3, .string x15), (5, dynV88 (gt y11 x16)), (14, .slice A12 y11.length cp13), (15, iv (y11.length : Int)), (16, iv x16)]) ?_
     refine oD (qT (cR [0, 1, 2, 3, 4, 5] ?_))
     refine oP (r := [2, 3, 4, 5]) [0, 1] (S' := [(14, .slice A12 y11.length cp13), (15, iv (y11.length : Int)), (16, iv x16), (20, .string x15), (21, dynV88 (gt y11 x16))]) ?_
     rcases hd24 : gt y11 x16 with _ | z25 | z26 | z27
     ·
      simp only [hd24] at h2
      all_goals cases h2
     ·
      simp only [hd24] at h2
      refine OpsT.keep [14, 15, 16, 20, 21] (S' := [(14, .slice A12 y11.length cp13), (15, iv (y11.length : Int)), (16, iv x16), (20, .string x15), (21, .iface 108 (.string z25))]) (by (try simp only [hd24]); kernel_rfl) ?_
      obtain ⟨y29, hc28, h2⟩ := bindS h2
      try dsimp only at h2
      refine oC (Does.invoke (nm := "cenotaph/event.show") (u := .iface 108 (.string z25)) (d := some 22) (n := 136) (vs := []) (by kernel_rfl) [.string z25] (fun _ => by kernel_rfl) (c136 w0 w _ _ hI hT z25 _ hc28) ?_)
      rintro e w ⟨rfl, hI⟩
      refine ⟨_, rfl, ?_⟩
      obtain ⟨hg30, h2⟩ := guardS h2
      refine oC (jY (Yl.cat (d := 23) (T := 9) (x := (⟨#[32]⟩ : ByteArray)) (y := y29) (by kernel_rfl) hg30) hI ?_)
      obtain ⟨hg31, h2⟩ := guardS h2
      refine oC (jY (Yl.cat (d := 24) (T := 9) (x := x15) (y := (⟨#[32]⟩ : ByteArray) ++ y29) (by kernel_rfl) hg31) hI ?_)
      refine oP (r := []) [5] (S' := [(3, .string (x15 ++ ((⟨#[32]⟩ : ByteArray) ++ y29))), (14, .slice A12 y11.length cp13), (15, iv (y11.length : Int)), (16, iv x16)]) ?_
      refine oD (jN ?_)
      have e := someS h2
      subst e
      exact jT fun a ha => ⟨x15 ++ ((⟨#[32]⟩ : ByteArray) ++ y29), rfl, ha.keep [3, 14, 15, 16] (by kernel_rfl), hI⟩
     ·
      simp only [hd24] at h2
      refine OpsT.keep [14, 15, 16, 20, 21] (S' := [(14, .slice A12 y11.length cp13), (15, iv (y11.length : Int)), (16, iv x16), (20, .string x15), (21, .iface 111 (iv z26))]) (by (try simp only [hd24]); kernel_rfl) ?_
      obtain ⟨y33, hc32, h2⟩ := bindS h2
      try dsimp only at h2
      refine oC (Does.invoke (nm := "cenotaph/event.show") (u := .iface 111 (iv z26)) (d := some 22) (n := 147) (vs := []) (by kernel_rfl) [iv z26] (fun _ => by kernel_rfl) (c147 w0 w _ _ hI hT z26 _ hc32) ?_)
      rintro e w ⟨rfl, hI⟩
      refine ⟨_, rfl, ?_⟩
      obtain ⟨hg34, h2⟩ := guardS h2
      refine oC (jY (Yl.cat (d := 23) (T := 9) (x := (⟨#[32]⟩ : ByteArray)) (y := y33) (by kernel_rfl) hg34) hI ?_)
      obtain ⟨hg35, h2⟩ := guardS h2
      refine oC (jY (Yl.cat (d := 24) (T := 9) (x := x15) (y := (⟨#[32]⟩ : ByteArray) ++ y33) (by kernel_rfl) hg35) hI ?_)
      refine oP (r := []) [5] (S' := [(3, .string (x15 ++ ((⟨#[32]⟩ : ByteArray) ++ y33))), (14, .slice A12 y11.length cp13), (15, iv (y11.length : Int)), (16, iv x16)]) ?_
      refine oD (jN ?_)
      have e := someS h2
      subst e
      exact jT fun a ha => ⟨x15 ++ ((⟨#[32]⟩ : ByteArray) ++ y33), rfl, ha.keep [3, 14, 15, 16] (by kernel_rfl), hI⟩
     ·
      simp only [hd24] at h2
      obtain ⟨hg36, h2⟩ := guardS h2
      refine OpsT.keep [14, 15, 16, 20, 21] (S' := [(14, .slice A12 y11.length cp13), (15, iv (y11.length : Int)), (16, iv x16), (20, .string x15), (21, .iface 112 (.agg (q8c z27).toArray))]) (by (try simp only [hd24]); kernel_rfl) ?_
      obtain ⟨y38, hc37, h2⟩ := bindS h2
      try dsimp only at h2
      refine oC (Does.invoke (nm := "cenotaph/event.show") (u := .iface 112 (.agg (q8c z27).toArray)) (d := some 22) (n := 149) (vs := []) (by kernel_rfl) [.agg (q8c z27).toArray] (fun _ => by kernel_rfl) (c149 w0 w _ _ hI hT z27 hg36 _ hc37) ?_)
      rintro e w ⟨rfl, hI⟩
      refine ⟨_, rfl, ?_⟩
      obtain ⟨hg39, h2⟩ := guardS h2
      refine oC (jY (Yl.cat (d := 23) (T := 9) (x := (⟨#[32]⟩ : ByteArray)) (y := y38) (by kernel_rfl) hg39) hI ?_)
      obtain ⟨hg40, h2⟩ := guardS h2
      refine oC (jY (Yl.cat (d := 24) (T := 9) (x := x15) (y := (⟨#[32]⟩ : ByteArray) ++ y38) (by kernel_rfl) hg40) hI ?_)
      refine oP (r := []) [5] (S' := [(3, .string (x15 ++ ((⟨#[32]⟩ : ByteArray) ++ y38))), (14, .slice A12 y11.length cp13), (15, iv (y11.length : Int)), (16, iv x16)]) ?_
      refine oD (jN ?_)
      have e := someS h2
      subst e
      exact jT fun a ha => ⟨x15 ++ ((⟨#[32]⟩ : ByteArray) ++ y38), rfl, ha.keep [3, 14, 15, 16] (by kernel_rfl), hI⟩
    ·
     rintro a w ⟨x18, rfl, ha, hI⟩
     try dsimp only at h1
     refine CodT.of ?_ ha
     refine cR [0, 1] ?_
     refine oP (r := []) [0, 1] (S' := [(3, .string x18), (14, .slice A12 y11.length cp13), (15, iv (y11.length : Int)), (16, iv (wi64 (x16 + 1)))]) ?_
     refine oD ?_
     exact jT fun a ha => ⟨k, Nat.lt_succ_self k, x18, wi64 (x16 + 1), h1, ha.keep [3, 14, 15, 16] (by kernel_rfl), hI⟩
   ·
    rw [if_neg hb17] at h1
    refine cN (b := decide (x16 < (y11.length : Int))) (by simpa using hb17) ?_
    refine jZ ?_
    refine jX (jX ?_)
    refine Qn.block ?_
    have hI := hI.drop
    have e := someS h1
    subst e
    exact jT fun a ha => ⟨x15, rfl, ha.keep [3] (by kernel_rfl), hI⟩
  ·
   rintro a w ⟨x14, rfl, ha, hI⟩
   try dsimp only at h0
   refine Qn.of ?_ ha
   refine qT (cQ (cR [0, 1] ?_))
   refine oP (r := []) [0, 1] (S' := [(2, .string x14)]) ?_
   refine oD (qT (jE ?_))
   have e := someS h0
   subst e
   refine qK [2] (S' := [(2, .string x14)]) ?_
   exact post_ret (v := .string x14) (fun a ha => jU (vs := [.string x14]) (.tmp (t := 2) (by kernel_rfl) .nil) ha (by kernel_rfl)) ⟨rfl, hI⟩
/-- cenotaph/bundle.Show -/
theorem c13 (w0 w : World) (Z : Hp) (A : HP) (hI : Inv w0 Z w A) (hT : Tabs Z) (ud : Int) (ue : (List Int)) (uba : ue.length = 32) (ua : Option Addr) (ui : Nat) (uc : (List ApiEvent)) (ubc : RdS Z c_ApiEvent 37 ua ui uc) (r : (List ByteArray)) (h0 : bundle_Show ud ue uc = some r) :
  Calls prog 13 #[.agg ((([iv ud] : LV) ++ (q8c ue) ++ ([.slice ua uc.length ui] : LV))).toArray] w (fun e w' => ∃ (A1 : Option Addr) (c1 : Nat), e = .returned (.slice A1 r.length c1) ∧ Inv w0 Z w' (star (ownS 9 cS 1 A1 c1 r) A)) := by
 have e4 := calls_intro (R := (fun e w' => ∃ (A1 : Option Addr) (c1 : Nat), e = .returned (.slice A1 r.length c1) ∧ Inv w0 Z w' (star (ownS 9 cS 1 A1 c1 r) A))) (w := w) (args := [.agg ((([iv ud] : LV) ++ (q8c ue) ++ ([.slice ua uc.length ui] : LV))).toArray]) (fn := Go.Proofs.Tryz.f13) 29 Go.Proofs.Tryz.func13 (by rfl) Go.Proofs.Tryz.ntmps13 (by kernel_rfl)
 refine e4 ?_
 clear e4
 unfold bundle_Show at h0
 refine cQ (cR [0, 1] ?_)
 refine oC (Does.boxL (d := 1) (T := 26) (v := .agg ((([iv ud] : LV) ++ (q8c ue) ++ ([.slice ua uc.length ui] : LV))).toArray) ((([iv ud] : LV) ++ (q8c ue) ++ ([.slice ua uc.length ui] : LV))) (by kernel_rfl) hI (by kernel_rfl) ?_)
 intro b1 w hI
 refine oP (r := []) [1] (S' := [(1, pb b1)]) ?_
 refine oD (qT (cQ (cR [0] ?_)))
 refine oP (r := []) [0] (S' := [(1, pb b1), (3, .slice none 0 0)]) ?_
 refine oD (qT (cQ (cQ (cR [0, 1, 2, 3] ?_))))
 refine oP (r := [1, 2, 3]) [0] (S' := [(1, pb b1), (3, .slice none 0 0), (5, .pointer (some ⟨b1, 33, none⟩))]) ?_
 refine oC (jY (jL (d := 6) (T := 24) (v := .slice ua uc.length ui) (by kernel_rfl) (ldB ty24 (l := (([iv ud] : LV) ++ (q8c ue) ++ ([.slice ua uc.length ui] : LV))) (o := 33) (v := .slice ua uc.length ui) (ent_refl _) (seg_get [([iv ud] : LV), cA (Value.int .u8) ue, ([.slice ua uc.length ui] : LV)] 2 (by simp [cA_length, uba]) (by simp [cA_length, uba]) rfl))) hI ?_)
 refine oP (r := []) [2, 3] (S' := [(1, pb b1), (3, .slice none 0 0), (7, iv (uc.length : Int)), (8, iv 0)]) ?_
 refine oD (qT ?_)
 obtain ⟨r1, h1, h0⟩ := bindS h0
 refine CodT.meet1 (fun a w => ∃ (x2 : (List ByteArray)) (A3 : Option Addr) (cp4 : Nat), x2 = r1 ∧ Fr 29 [(3, .slice A3 x2.length cp4)] a ∧ Inv w0 Z w (star (ownS 9 cS 1 A3 cp4 x2) A)) ?_ ?_
 ·
  refine jB ?_
  have hI := ownS_nil (α := ByteArray) hI 9 cS 1
  refine (fun a ha => wp_loopN (fun k a w => ∃ (x5 : (List ByteArray)) (x8 : Int) (A6 : Option Addr) (cp7 : Nat), bundle_Show.l0 uc ud k x5 x8 = some r1 ∧ Fr 29 [(1, pb b1), (3, .slice A6 x5.length cp7), (7, iv (uc.length : Int)), (8, iv x8)] a ∧ Inv w0 Z w (star (ownS 9 cS 1 A6 cp7 x5) (star (pt b1 (.cells ((([iv ud] : LV) ++ (q8c ue) ++ ([.slice ua uc.length ui] : LV))).toArray 26 (0, 0))) A))) ?_ FU a w ⟨([] : List ByteArray), 0, none, 0, h1, ha.keep [1, 3, 7, 8] (by kernel_rfl), hI⟩)
  clear h1 hI
  rintro k a w ⟨x5, x8, A6, cp7, h1, ha, hI⟩
  rcases k with _ | k
  ·
   cases h1
  simp only [bundle_Show.l0] at h1
  refine CodT.of ?_ ha
  refine cQ (cR [0] ?_)
  refine oP (r := []) [0] (S' := [(1, pb b1), (3, .slice A6 x5.length cp7), (7, iv (uc.length : Int)), (8, iv x8), (9, .bool (decide (x8 < (uc.length : Int))))]) ?_
  refine oD (qT (cQ ?_))
  by_cases hb9 : (decide (x8 < (uc.length : Int))) = true
  ·
   rw [if_pos hb9] at h1
   refine cY (b := decide (x8 < (uc.length : Int))) hb9 ?_
   refine jS (qT (cQ (jB (cQ (cR [0, 1] ?_)))))
   refine oP (r := []) [0, 1] (S' := [(1, pb b1), (3, .slice A6 x5.length cp7), (4, iv x8), (7, iv (uc.length : Int)), (8, iv x8)]) ?_
   refine oD (qT ?_)
   refine CodT.drawI (n := 17) [15] (by kernel_rfl) (by kernel_rfl) hI ?_
   intro w hI
   refine gP 0 11 (.slice A6 x5.length cp7) ?_
   refine gP 1 12 (pb b1) ?_
   refine gP 3 14 (iv x8) ?_
   refine gP 7 18 (.pointer (some ⟨b1, 33, none⟩)) ?_
   refine gP 9 20 (iv x8) ?_
   refine gR (i := 2) 5 (jL (d := 13) (T := 3) (v := iv ud) (by kernel_rfl) (ldB ty3 (l := (([iv ud] : LV) ++ (q8c ue) ++ ([.slice ua uc.length ui] : LV))) (o := 0) (v := iv ud) (pick2 _ _ _) (by kernel_rfl))) hI ?_
   refine gP 4 15 (iv (wi64 (ud + x8))) ?_
   refine gR (i := 8) 5 (jL (d := 19) (T := 24) (v := .slice ua uc.length ui) (by kernel_rfl) (ldB ty24 (l := (([iv ud] : LV) ++ (q8c ue) ++ ([.slice ua uc.length ui] : LV))) (o := 33) (v := .slice ua uc.length ui) (pick2 _ _ _) (seg_get [([iv ud] : LV), cA (Value.int .u8) ue, ([.slice ua uc.length ui] : LV)] 2 (by simp [cA_length, uba]) (by simp [cA_length, uba]) rfl))) hI ?_
   obtain ⟨hg10, h1⟩ := guardS h1
   obtain ⟨g11, o15, hA12, hr13, hl14⟩ := RdS.get ubc hg10.1 hg10.2
   refine gR (i := 10) 4 (Yl.indexSlice (d := 21) (T := 24) (cc := ui) (k := .i64) (j := x8) (g := g11) (o := o15) (by kernel_rfl) Go.Proofs.Tryz.underlying24 ty50 hA12 hg10.1 hg10.2) hI ?_
   refine gR (i := 11) 3 (jL (d := 22) (T := 50) (v := .agg (c_ApiEvent (gt uc x8)).toArray) (by kernel_rfl) (ldRN ty50 (cs := c_ApiEvent (gt uc x8)) 0 (fun w hC => hr13 w0 w _ hC) hl14 (whole _ _ hl14))) hI ?_
   obtain ⟨y17, hc16, h1⟩ := bindS h1
   try dsimp only at h1
   refine jO (i := 5) (by kernel_rfl) (jC (d := some 16) (n := 32) (vs := [iv (wi64 (ud + x8))]) (by kernel_rfl) en32 (c32 w0 w _ _ hI hT (wi64 (ud + x8)) _ hc16) ?_)
   rintro e w ⟨rfl, hI⟩
   refine ⟨_, rfl, ?_⟩
   refine ⟨fun _ _ => hI, ?_⟩
   obtain ⟨hg18, h1⟩ := guardS h1
   refine gR (i := 6) 4 (Yl.cat (d := 17) (T := 9) (x := y17) (y := (⟨#[58, 32]⟩ : ByteArray)) (by kernel_rfl) hg18) hI ?_
   obtain ⟨y20, hc19, h1⟩ := bindS h1
   try dsimp only at h1
   refine jO (i := 12) (by kernel_rfl) (jC (d := some 23) (n := 33) (vs := [.agg (c_ApiEvent (gt uc x8)).toArray]) (by kernel_rfl) en33 (c33 w0 w _ _ hI hT (gt uc x8) (inv_ApiEvent _ hl14) _ hc19) ?_)
   rintro e w ⟨rfl, hI⟩
   refine ⟨_, rfl, ?_⟩
   refine ⟨fun _ _ => hI, ?_⟩
   obtain ⟨hg21, h1⟩ := guardS h1
   refine gR (i := 13) 3 (Yl.cat (d := 24) (T := 9) (x := y17 ++ (⟨#[58, 32]⟩ : ByteArray)) (y := y20) (by kernel_rfl) hg21) hI ?_
   refine jO (i := 14) (by kernel_rfl) (Does.buildSlice (en := cS) (d := 25) (n := 1) (T := 36) (ps := [(0, .string ((y17 ++ (⟨#[58, 32]⟩ : ByteArray)) ++ y20))]) ([(y17 ++ (⟨#[58, 32]⟩ : ByteArray)) ++ y20] : List ByteArray) (by kernel_rfl) Go.Proofs.Tryz.underlying36 ty9 (by kernel_rfl) (by kernel_rfl) (by kernel_rfl) (by kernel_rfl) (len_all (fun _ => rfl)) hI ?_)
   intro b22 w hI
   have hC := hI
   have hC := hC.drop
   refine ⟨fun _ _ => hC, ?_⟩
   obtain ⟨hg23, h1⟩ := guardS h1
   have hI := hI.mono (pick2 _ _ _)
   refine jO (i := 15) (by kernel_rfl) (Does.append (d := 26) (t := 36) (tx := 36) (ty := 36) (ys := x5) (zs := ([(y17 ++ (⟨#[58, 32]⟩ : ByteArray)) ++ y20] : List ByteArray)) (x := .slice (some ⟨b22, 0, none⟩) (([(y17 ++ (⟨#[58, 32]⟩ : ByteArray)) ++ y20] : List ByteArray).length) 1) (by kernel_rfl) Go.Proofs.Tryz.underlying36 ty9 (by kernel_rfl) hI (src_own Go.Proofs.Tryz.underlying36 (hI.mono (pick2 _ _ _)) (one_flat _ (fun _ => rfl))) (ownS_facts (hI.mono (pick2 _ _ _))).2.2 (by unfold LIM at hg23; omega) hg23 ?_)
   intro A24 cp25 w hI
   refine ⟨fun h => absurd h (by decide), ?_⟩
   refine gP 16 3 (.slice A24 ((x5 ++ ([(y17 ++ (⟨#[58, 32]⟩ : ByteArray)) ++ y20] : List ByteArray)).length) cp25) ?_
   refine jD (by kernel_rfl) ?_
   refine jN (qT (cR [0, 1] ?_))
   refine oP (r := []) [0, 1] (S' := [(1, pb b1), (3, .slice A24 ((x5 ++ ([(y17 ++ (⟨#[58, 32]⟩ : ByteArray)) ++ y20] : List ByteArray)).length) cp25), (7, iv (uc.length : Int)), (8, iv (wi64 (x8 + 1)))]) ?_
   refine oD ?_
   have hI := hI.mono (pick2 _ _ _)
   have hI := hI.drop
   exact jT fun a ha => ⟨k, Nat.lt_succ_self k, x5 ++ ([(y17 ++ (⟨#[58, 32]⟩ : ByteArray)) ++ y20] : List ByteArray), wi64 (x8 + 1), A24, cp25, h1, ha.keep [1, 3, 7, 8] (by kernel_rfl), hI⟩
  ·
   rw [if_neg hb9] at h1
   refine cN (b := decide (x8 < (uc.length : Int))) (by simpa using hb9) ?_
   refine jZ ?_
   refine jX (jX ?_)
   refine Qn.block ?_
   have hI := hI.mono (pick2 _ _ _)
   have hI := hI.drop
   have e := someS h1
   subst e
   exact jT fun a ha => ⟨x5, A6, cp7, rfl, ha.keep [3] (by kernel_rfl), hI⟩
 ·
  rintro a w ⟨x2, A3, cp4, rfl, ha, hI⟩
  try dsimp only at h0
  refine Qn.of ?_ ha
  refine qT (cQ (cR [0, 1] ?_))
  refine oP (r := []) [0, 1] (S' := [(2, .slice A3 x2.length cp4)]) ?_
  refine oD (qT (jE ?_))
  have e := someS h0
  subst e
  refine qK [2] (S' := [(2, .slice A3 x2.length cp4)]) ?_
  exact post_ret (v := .slice A3 x2.length cp4) (fun a ha => jU (vs := [.slice A3 x2.length cp4]) (.tmp (t := 2) (by kernel_rfl) .nil) ha (by kernel_rfl)) ⟨A3, cp4, rfl, hI⟩
/-- slices.Equal[[]cenotaph/api.Event,cenotaph/api.Event] -/
theorem c36 (w0 w : World) (Z : Hp) (A : HP) (hI : Inv w0 Z w A) (hT : Tabs Z) (A_a0 : Option Addr) (c_a0 : Nat) (a0 : (List ApiEvent)) (hr_a0 : RdS Z c_ApiEvent 37 A_a0 c_a0 a0) (A_a1 : Option Addr) (c_a1 : Nat) (a1 : (List ApiEvent)) (hr_a1 : RdS Z c_ApiEvent 37 A_a1 c_a1 a1) (r : Bool) (h0 : slices_Equal_apiEvent a0 a1 = some r) :
  Calls prog 36 #[.slice A_a0 a0.length c_a0, .slice A_a1 a1.length c_a1] w (fun e w' => e = .returned (.bool r) ∧ Inv w0 Z w' A) := by
 have e4 := calls_intro (R := (fun e w' => e = .returned (.bool r) ∧ Inv w0 Z w' A)) (w := w) (args := [.slice A_a0 a0.length c_a0, .slice A_a1 a1.length c_a1]) (fn := Go.Proofs.Tryz.f36) 26 Go.Proofs.Tryz.func36 (by rfl) Go.Proofs.Tryz.ntmps36 (by kernel_rfl)
 refine e4 ?_
 clear e4
 unfold slices_Equal_apiEvent at h0
 refine cQ (cR [0] ?_)
 refine oP (r := []) [0] (S' := [(0, .slice A_a0 a0.length c_a0), (1, .slice A_a1 a1.length c_a1)]) ?_
 refine oD (qT (cQ (cQ (cR [0, 1, 2, 3, 4] ?_))))
 refine oP (r := []) [0, 1, 2, 3, 4] (S' := [(0, .slice A_a0 a0.length c_a0), (1, .slice A_a1 a1.length c_a1), (10, .bool ((a0.length : Int) != (a1.length : Int)))]) ?_
 refine oD (qT ?_)
 by_cases hb1 : ((a0.length : Int) != (a1.length : Int)) = true
 ·
  rw [if_pos hb1] at h0
  refine cY (b := (a0.length : Int) != (a1.length : Int)) hb1 ?_
  refine cQ (cR [0] ?_)
  refine oP (r := []) [0] (S' := [(4, .bool false)]) ?_
  refine oD (qT (jE (jR ?_)))
  have e := someS h0
  subst e
  refine qK [4] (S' := [(4, .bool false)]) ?_
  exact post_ret (v := .bool false) (fun a ha => jU (vs := [.bool false]) (.tmp (t := 4) (by kernel_rfl) .nil) ha (by kernel_rfl)) ⟨rfl, hI⟩
 ·
  rw [if_neg hb1] at h0
  refine cN (b := (a0.length : Int) != (a1.length : Int)) (by simpa using hb1) ?_
  refine jS (qT (cQ (cQ (cR [0, 1, 2] ?_))))
  refine oP (r := []) [0, 1, 2] (S' := [(0, .slice A_a0 a0.length c_a0), (1, .slice A_a1 a1.length c_a1), (12, iv (a0.length : Int)), (13, iv 0)]) ?_
  refine oD (qT ?_)
  obtain ⟨r1, h1, h0⟩ := bindS h0
  refine CodT.meet1 (fun a w => .inr () = r1 ∧ Fr 26 [] a ∧ Inv w0 Z w A) ?_ ?_
  ·
   refine jB ?_
   refine (fun a ha => wp_loopN (fun k a w => ∃ (x2 : Int), slices_Equal_apiEvent.l0 a0 a1 k x2 = some r1 ∧ Fr 26 [(0, .slice A_a0 a0.length c_a0), (1, .slice A_a1 a1.length c_a1), (12, iv (a0.length : Int)), (13, iv x2)] a ∧ Inv w0 Z w A) ?_ FU a w ⟨0, h1, ha.keep [0, 1, 12, 13] (by kernel_rfl), hI⟩)
   clear h1 hI
   rintro k a w ⟨x2, h1, ha, hI⟩
   rcases k with _ | k
   ·
    cases h1
   simp only [slices_Equal_apiEvent.l0] at h1
   refine CodT.of ?_ ha
   refine cQ (cR [0] ?_)
   refine oP (r := []) [0] (S' := [(0, .slice A_a0 a0.length c_a0), (1, .slice A_a1 a1.length c_a1), (12, iv (a0.length : Int)), (13, iv x2), (14, .bool (decide (x2 < (a0.length : Int))))]) ?_
   refine oD (qT (cQ ?_))
   by_cases hb3 : (decide (x2 < (a0.length : Int))) = true
   ·
    rw [if_pos hb3] at h1
    refine cY (b := decide (x2 < (a0.length : Int))) hb3 ?_
    refine jS (qT (cQ (jB (cQ (cR [0, 1] ?_)))))
    refine oP (r := []) [0, 1] (S' := [(0, .slice A_a0 a0.length c_a0), (1, .slice A_a1 a1.length c_a1), (5, iv x2), (12, iv (a0.length : Int)), (13, iv x2)]) ?_
    refine oD (qT (cQ ?_))
    refine CodT.drawI (n := 9) [] (by kernel_rfl) (by kernel_rfl) hI ?_
    intro w hI
    refine gP 0 16 (.slice A_a0 a0.length c_a0) ?_
    refine gP 1 17 (iv x2) ?_
    refine gP 4 20 (.slice A_a1 a1.length c_a1) ?_
    refine gP 5 21 (iv x2) ?_
    obtain ⟨hg4, h1⟩ := guardS h1
    obtain ⟨g5, o9, hA6, hr7, hl8⟩ := RdS.get hr_a0 hg4.1 hg4.2
    refine gR (i := 2) 2 (Yl.indexSlice (d := 18) (T := 24) (cc := c_a0) (k := .i64) (j := x2) (g := g5) (o := o9) (by kernel_rfl) Go.Proofs.Tryz.underlying24 ty50 hA6 hg4.1 hg4.2) hI ?_
    refine gR (i := 3) 2 (jL (d := 19) (T := 50) (v := .agg (c_ApiEvent (gt a0 x2)).toArray) (by kernel_rfl) (ldRN ty50 (cs := c_ApiEvent (gt a0 x2)) 0 (fun w hC => hr7 w0 w _ hC) hl8 (whole _ _ hl8))) hI ?_
    obtain ⟨hg10, h1⟩ := guardS h1
    obtain ⟨g11, o15, hA12, hr13, hl14⟩ := RdS.get hr_a1 hg10.1 hg10.2
    refine gR (i := 6) 2 (Yl.indexSlice (d := 22) (T := 24) (cc := c_a1) (k := .i64) (j := x2) (g := g11) (o := o15) (by kernel_rfl) Go.Proofs.Tryz.underlying24 ty50 hA12 hg10.1 hg10.2) hI ?_
    refine gR (i := 7) 2 (jL (d := 23) (T := 50) (v := .agg (c_ApiEvent (gt a1 x2)).toArray) (by kernel_rfl) (ldRN ty50 (cs := c_ApiEvent (gt a1 x2)) 0 (fun w hC => hr13 w0 w _ hC) hl14 (whole _ _ hl14))) hI ?_
    refine gR (i := 8) 2 (Yl.neqS (d := 24) (T := 50) (xs := ([iv ((gt a0 x2).Kind), iv ((gt a0 x2).ID), .string ((gt a0 x2).Name), iv ((gt a0 x2).Time), iv ((gt a0 x2).Len)] : LV) ++ (q8c ((gt a0 x2).Sum))) (ys := ([iv ((gt a1 x2).Kind), iv ((gt a1 x2).ID), .string ((gt a1 x2).Name), iv ((gt a1 x2).Time), iv ((gt a1 x2).Len)] : LV) ++ (q8c ((gt a1 x2).Sum))) (r := eq_ApiEvent (gt a0 x2) (gt a1 x2)) (by kernel_rfl) Go.Proofs.Tryz.underlying50 (by kernel_rfl) (by kernel_rfl) (.cons rfl (part1 (v := iv ((gt a0 x2).Kind)) ty48 (by kernel_rfl)) (part1 (v := iv ((gt a1 x2).Kind)) ty48 (by kernel_rfl)) (eqI Go.Proofs.Tryz.underlying48) (.cons rfl (part1 (v := iv ((gt a0 x2).ID)) ty3 (by kernel_rfl)) (part1 (v := iv ((gt a1 x2).ID)) ty3 (by kernel_rfl)) (eqI Go.Proofs.Tryz.underlying3) (.cons rfl (part1 (v := .string ((gt a0 x2).Name)) ty9 (by kernel_rfl)) (part1 (v := .string ((gt a1 x2).Name)) ty9 (by kernel_rfl)) (eqS Go.Proofs.Tryz.underlying9) (.cons rfl (part1 (v := iv ((gt a0 x2).Time)) ty3 (by kernel_rfl)) (part1 (v := iv ((gt a1 x2).Time)) ty3 (by kernel_rfl)) (eqI Go.Proofs.Tryz.underlying3) (.cons rfl (part1 (v := iv ((gt a0 x2).Len)) ty3 (by kernel_rfl)) (part1 (v := iv ((gt a1 x2).Len)) ty3 (by kernel_rfl)) (eqI Go.Proofs.Tryz.underlying3) (.cons rfl (partN ty23 (tail_take _ _ _ _ _ (by kernel_rfl) (inv_ApiEvent _ hl8))) (partN ty23 (tail_take _ _ _ _ _ (by kernel_rfl) (inv_ApiEvent _ hl14))) (eqAr Go.Proofs.Tryz.underlying23 Go.Proofs.Tryz.underlying5 ty5 (inv_ApiEvent _ hl8) (inv_ApiEvent _ hl14)) .nil))))))) hI ?_
    refine jD (by kernel_rfl) ?_
    refine qT ?_
    by_cases hb16 : (!(eq_ApiEvent (gt a0 x2) (gt a1 x2))) = true
    ·
     rw [if_pos hb16] at h1
     refine cY (b := !(eq_ApiEvent (gt a0 x2) (gt a1 x2))) hb16 ?_
     refine cQ (cR [0] ?_)
     refine oP (r := []) [0] (S' := [(4, .bool false)]) ?_
     refine oD (qT (jE (jQ (jR (jR (jQ (jR (jR ?_))))))))
     have e := someS h1
     subst e
     try dsimp only at h0
     have e := someS h0
     subst e
     refine qK [4] (S' := [(4, .bool false)]) ?_
     exact post_ret (v := .bool false) (fun a ha => jU (vs := [.bool false]) (.tmp (t := 4) (by kernel_rfl) .nil) ha (by kernel_rfl)) ⟨rfl, hI⟩
    ·
     rw [if_neg hb16] at h1
     refine cN (b := !(eq_ApiEvent (gt a0 x2) (gt a1 x2))) (by simpa using hb16) ?_
     refine jS (jN (qT (cR [0, 1] ?_)))
     refine oP (r := []) [0, 1] (S' := [(0, .slice A_a0 a0.length c_a0), (1, .slice A_a1 a1.length c_a1), (12, iv (a0.length : Int)), (13, iv (wi64 (x2 + 1)))]) ?_
     refine oD ?_
     exact jT fun a ha => ⟨k, Nat.lt_succ_self k, wi64 (x2 + 1), h1, ha.keep [0, 1, 12, 13] (by kernel_rfl), hI⟩
   ·
    rw [if_neg hb3] at h1
    refine cN (b := decide (x2 < (a0.length : Int))) (by simpa using hb3) ?_
    refine jZ ?_
    refine jX (jX ?_)
    refine Qn.block ?_
    have e := someS h1
    subst e
    exact jT fun a ha => ⟨rfl, ha.keep [] (by kernel_rfl), hI⟩
  ·
   rintro a w ⟨rfl, ha, hI⟩
   try dsimp only at h0
   refine Qn.of ?_ ha
   refine qT (cQ (cR [0] ?_))
   refine oP (r := []) [0] (S' := [(4, .bool true)]) ?_
   refine oD (qT (jE ?_))
   have e := someS h0
   subst e
   refine qK [4] (S' := [(4, .bool true)]) ?_
   exact post_ret (v := .bool true) (fun a ha => jU (vs := [.bool true]) (.tmp (t := 4) (by kernel_rfl) .nil) ha (by kernel_rfl)) ⟨rfl, hI⟩
/-- cenotaph/bundle.Same -/
theorem c15 (w0 w : World) (Z : Hp) (A : HP) (hI : Inv w0 Z w A) (hT : Tabs Z) (ud : Int) (ue : (List Int)) (uba : ue.length = 32) (ua : Option Addr) (ui : Nat) (uc : (List ApiEvent)) (ubc : RdS Z c_ApiEvent 37 ua ui uc) (ug : Int) (uh : (List Int)) (ubb : uh.length = 32) (ub : Option Addr) (uj : Nat) (uf : (List ApiEvent)) (ubd : RdS Z c_ApiEvent 37 ub uj uf) (r : Bool) (h0 : bundle_Same ud ue uc ug uh uf = some r) :
  Calls prog 15 #[.agg ((([iv ud] : LV) ++ (q8c ue) ++ ([.slice ua uc.length ui] : LV))).toArray, .agg ((([iv ug] : LV) ++ (q8c uh) ++ ([.slice ub uf.length uj] : LV))).toArray] w (fun e w' => e = .returned (.bool r) ∧ Inv w0 Z w' A) := by
 have e4 := calls_intro (R := (fun e w' => e = .returned (.bool r) ∧ Inv w0 Z w' A)) (w := w) (args := [.agg ((([iv ud] : LV) ++ (q8c ue) ++ ([.slice ua uc.length ui] : LV))).toArray, .agg ((([iv ug] : LV) ++ (q8c uh) ++ ([.slice ub uf.length uj] : LV))).toArray]) (fn := Go.Proofs.Tryz.f15) 24 Go.Proofs.Tryz.func15 (by rfl) Go.Proofs.Tryz.ntmps15 (by kernel_rfl)
 refine e4 ?_
 clear e4
 unfold bundle_Same at h0
 refine cQ (cR [0, 1, 2] ?_)
 refine oC (Does.boxL (d := 2) (T := 26) (v := .agg ((([iv ud] : LV) ++ (q8c ue) ++ ([.slice ua uc.length ui] : LV))).toArray) ((([iv ud] : LV) ++ (q8c ue) ++ ([.slice ua uc.length ui] : LV))) (by kernel_rfl) hI (by kernel_rfl) ?_)
 intro b1 w hI
 refine oC (Does.boxL (d := 3) (T := 26) (v := .agg ((([iv ug] : LV) ++ (q8c uh) ++ ([.slice ub uf.length uj] : LV))).toArray) ((([iv ug] : LV) ++ (q8c uh) ++ ([.slice ub uf.length uj] : LV))) (by kernel_rfl) hI (by kernel_rfl) ?_)
 intro b2 w hI
 refine oP (r := []) [2] (S' := [(2, pb b1), (3, pb b2)]) ?_
 refine oD (qT ?_)
 obtain ⟨r1, h1, h0⟩ := bindS h0
 refine jM (fun a w => ∃ (x3 : Bool), x3 = r1 ∧ Fr 24 [(4, .bool x3)] a ∧ Inv w0 Z w A) ?_ ?_
 ·
  refine cR [0, 1, 2, 3, 4, 5, 6, 7, 8, 9, 10, 11, 12, 13, 14, 15, 16, 17, 18, 19] ?_
  refine oP (r := [1, 2, 3, 4, 5, 6, 7, 8, 9, 10, 11, 12, 13, 14, 15, 16, 17, 18, 19]) [0] (S' := [(2, pb b1), (3, pb b2), (5, pb b1)]) ?_
  refine oC (jY (jL (d := 6) (T := 3) (v := iv ud) (by kernel_rfl) (ldB ty3 (l := (([iv ud] : LV) ++ (q8c ue) ++ ([.slice ua uc.length ui] : LV))) (o := 0) (v := iv ud) (pick2 _ _ _) (by kernel_rfl))) hI ?_)
  refine oP (r := [3, 4, 5, 6, 7, 8, 9, 10, 11, 12, 13, 14, 15, 16, 17, 18, 19]) [2] (S' := [(2, pb b1), (3, pb b2), (6, iv ud), (7, pb b2)]) ?_
  refine oC (jY (jL (d := 8) (T := 3) (v := iv ug) (by kernel_rfl) (ldB ty3 (l := (([iv ug] : LV) ++ (q8c uh) ++ ([.slice ub uf.length uj] : LV))) (o := 0) (v := iv ug) (ent_refl _) (by kernel_rfl))) hI ?_)
  refine oP (r := [6, 7, 8, 9, 10, 11, 12, 13, 14, 15, 16, 17, 18, 19]) [4, 5] (S' := [(2, pb b1), (3, pb b2), (10, .bool (ud == ug))]) ?_
  by_cases hb4 : (ud == ug) = true
  ·
   rw [if_pos hb4] at h1
   refine OpsT.keep [2, 3, 10] (S' := [(2, pb b1), (3, pb b2), (10, .bool true)]) (by (try simp only [hb4]); kernel_rfl) ?_
   refine oP (r := [7, 8, 9, 10, 11, 12, 13, 14, 15, 16, 17, 18, 19]) [6] (S' := [(2, pb b1), (3, pb b2), (10, .bool true), (11, .pointer (some ⟨b1, 1, none⟩))]) ?_
   refine oC (jY (jL (d := 12) (T := 23) (v := .agg (q8c ue).toArray) (by kernel_rfl) (ldBN ty23 (l := (([iv ud] : LV) ++ (q8c ue) ++ ([.slice ua uc.length ui] : LV))) (o := 1) (cs := cA (Value.int .u8) ue) (pick2 _ _ _) ((cA_length _ _).trans uba) (seg_take [([iv ud] : LV), cA (Value.int .u8) ue, ([.slice ua uc.length ui] : LV)] 1 1 (by simp [cA_length, uba]) (by simp [cA_length, uba]) (by simp [cA_length, uba]) (by simp [cA_length, uba])))) hI ?_)
   refine oP (r := [9, 10, 11, 12, 13, 14, 15, 16, 17, 18, 19]) [8] (S' := [(2, pb b1), (3, pb b2), (10, .bool true), (12, .agg (q8c ue).toArray), (13, .pointer (some ⟨b2, 1, none⟩))]) ?_
   refine oC (jY (jL (d := 14) (T := 23) (v := .agg (q8c uh).toArray) (by kernel_rfl) (ldBN ty23 (l := (([iv ug] : LV) ++ (q8c uh) ++ ([.slice ub uf.length uj] : LV))) (o := 1) (cs := cA (Value.int .u8) uh) (ent_refl _) ((cA_length _ _).trans ubb) (seg_take [([iv ug] : LV), cA (Value.int .u8) uh, ([.slice ub uf.length uj] : LV)] 1 1 (by simp [cA_length, ubb]) (by simp [cA_length, ubb]) (by simp [cA_length, ubb]) (by simp [cA_length, ubb])))) hI ?_)
   refine oC (jY (Yl.eqlA (k := .u8) (d := 15) (T := 23) (xs := ue) (ys := uh) (by kernel_rfl) Go.Proofs.Tryz.underlying23 (by kernel_rfl) Go.Proofs.Tryz.underlying5 ty5 uba ubb) hI ?_)
   refine oP (r := [13, 14, 15, 16, 17, 18, 19]) [11, 12] (S' := [(2, pb b1), (3, pb b2), (17, .bool (eqA ue uh))]) ?_
   by_cases hb5 : (eqA ue uh) = true
   ·
    rw [if_pos hb5] at h1
    refine OpsT.keep [2, 3, 17] (S' := [(2, pb b1), (3, pb b2), (17, .bool true)]) (by (try simp only [hb5]); kernel_rfl) ?_
    refine oP (r := [14, 15, 16, 17, 18, 19]) [13] (S' := [(3, pb b2), (17, .bool true), (18, .pointer (some ⟨b1, 33, none⟩))]) ?_
    refine oC (jY (jL (d := 19) (T := 24) (v := .slice ua uc.length ui) (by kernel_rfl) (ldB ty24 (l := (([iv ud] : LV) ++ (q8c ue) ++ ([.slice ua uc.length ui] : LV))) (o := 33) (v := .slice ua uc.length ui) (pick2 _ _ _) (seg_get [([iv ud] : LV), cA (Value.int .u8) ue, ([.slice ua uc.length ui] : LV)] 2 (by simp [cA_length, uba]) (by simp [cA_length, uba]) rfl))) hI ?_)
    refine oP (r := [16, 17, 18, 19]) [15] (S' := [(17, .bool true), (19, .slice ua uc.length ui), (20, .pointer (some ⟨b2, 33, none⟩))]) ?_
    refine oC (jY (jL (d := 21) (T := 24) (v := .slice ub uf.length uj) (by kernel_rfl) (ldB ty24 (l := (([iv ug] : LV) ++ (q8c uh) ++ ([.slice ub uf.length uj] : LV))) (o := 33) (v := .slice ub uf.length uj) (ent_refl _) (seg_get [([iv ug] : LV), cA (Value.int .u8) uh, ([.slice ub uf.length uj] : LV)] 2 (by simp [cA_length, ubb]) (by simp [cA_length, ubb]) rfl))) hI ?_)
    obtain ⟨y7, hc6, h1⟩ := bindS h1
    try dsimp only at h1
    refine oC (jC (d := some 22) (n := 36) (vs := [.slice ua uc.length ui, .slice ub uf.length uj]) (by kernel_rfl) en36 (c36 w0 w _ _ hI hT ua ui uc ubc ub uj uf ubd _ hc6) ?_)
    rintro e w ⟨rfl, hI⟩
    refine ⟨_, rfl, ?_⟩
    refine oP (r := []) [18, 19] (S' := [(4, .bool y7)]) ?_
    refine oD ?_
    have hI := hI.drop
    have hI := hI.drop
    have e := someS h1
    subst e
    exact jT fun a ha => ⟨y7, rfl, ha.keep [4] (by kernel_rfl), hI⟩
   ·
    rw [if_neg hb5] at h1
    have hb5 : (eqA ue uh) = false := by simpa using hb5
    refine OpsT.keep [2, 3, 17] (S' := [(2, pb b1), (3, pb b2), (17, .bool false)]) (by (try simp only [hb5]); kernel_rfl) ?_
    refine oP (r := []) [13, 14, 15, 16, 17, 18, 19] (S' := [(4, .bool false)]) ?_
    refine oD ?_
    have hI := hI.drop
    have hI := hI.drop
    have e := someS h1
    subst e
    exact jT fun a ha => ⟨false, rfl, ha.keep [4] (by kernel_rfl), hI⟩
  ·
   rw [if_neg hb4] at h1
   have hb4 : (ud == ug) = false := by simpa using hb4
   refine OpsT.keep [2, 3, 10] (S' := [(2, pb b1), (3, pb b2), (10, .bool false)]) (by (try simp only [hb4]); kernel_rfl) ?_
   refine oP (r := []) [6, 7, 8, 9, 10, 11, 12, 13, 14, 15, 16, 17, 18, 19] (S' := [(4, .bool false)]) ?_
   refine oD ?_
   have hI := hI.drop
   have hI := hI.drop
   have e := someS h1
   subst e
   exact jT fun a ha => ⟨false, rfl, ha.keep [4] (by kernel_rfl), hI⟩
 ·
  rintro a w ⟨x3, rfl, ha, hI⟩
  try dsimp only at h0
  refine CodT.of ?_ ha
  refine jE ?_
  have e := someS h0
  subst e
  refine qK [4] (S' := [(4, .bool x3)]) ?_
  exact post_ret (v := .bool x3) (fun a ha => jU (vs := [.bool x3]) (.tmp (t := 4) (by kernel_rfl) .nil) ha (by kernel_rfl)) ⟨rfl, hI⟩
/-- cenotaph/cenotaphlaw11.works -/
theorem c6 (w0 w : World) (Z : Hp) (A : HP) (hI : Inv w0 Z w A) (hT : Tabs Z)  (r : Bool) (h0 : law11_works = some r) :
  Calls prog 6 #[] w (fun e w' => e = .returned (.bool r) ∧ Inv w0 Z w' A) := by
 have e4 := calls_intro (R := (fun e w' => e = .returned (.bool r) ∧ Inv w0 Z w' A)) (w := w) (args := []) (fn := Go.Proofs.Tryz.f6) 104 Go.Proofs.Tryz.func6 (by rfl) Go.Proofs.Tryz.ntmps6 (by kernel_rfl)
 refine e4 ?_
 clear e4
 unfold law11_works at h0
 refine cQ (cR [0] ?_)
 refine oP (r := []) [0] (S' := []) ?_
 refine oD (qT (cQ (cR [0, 1, 2] ?_)))
 refine oP (r := [1, 2]) [0] (S' := [(13, .agg (c_ApiEvent (ApiEvent.mk 7 0 q8e 3 0 q8z)).toArray)]) ?_
 refine oC (Does.buildSliceAll (en := c_ApiEvent) (d := 14) (n := 1) (T := 24) (ps := [(0, .agg (c_ApiEvent (ApiEvent.mk 7 0 q8e 3 0 q8z)).toArray)]) (fun y => .agg (c_ApiEvent y).toArray) (fun _ => rfl) ([(ApiEvent.mk 7 0 q8e 3 0 q8z)] : List ApiEvent) (by kernel_rfl) rfl Go.Proofs.Tryz.underlying24 ty50 rfl (by kernel_rfl) (by kernel_rfl) (by decide +kernel) (List.forall_mem_cons.2 ⟨(len_ApiEvent _ (by kernel_rfl)), (fun _ h => by cases h)⟩) hI ?_)
 intro b1 w hI
 refine oP (r := []) [2] (S' := [(1, .slice (some ⟨b1, 0, none⟩) (([(ApiEvent.mk 7 0 q8e 3 0 q8z)] : List ApiEvent).length) 1)]) ?_
 refine oD (qT (cQ (cR [0, 1, 2, 3, 4, 5, 6, 7] ?_)))
 refine oP (r := [1, 2, 3, 4, 5, 6, 7]) [0] (S' := [(1, .slice (some ⟨b1, 0, none⟩) (([(ApiEvent.mk 7 0 q8e 3 0 q8z)] : List ApiEvent).length) 1), (16, .slice (some ⟨b1, 0, none⟩) (([(ApiEvent.mk 7 0 q8e 3 0 q8z)] : List ApiEvent).length) 1)]) ?_
 obtain ⟨Z2, hle3, hr4, hI⟩ := ownS_freeze hI
 obtain ⟨⟨y6, y7, y9, y12⟩, hc5, h0⟩ := bindS h0
 try dsimp only at h0
 refine oC (jC (d := some 17) (n := 18) (vs := [.slice (some ⟨b1, 0, none⟩) (([(ApiEvent.mk 7 0 q8e 3 0 q8z)] : List ApiEvent).length) 1, iv 0, iv 1]) (by kernel_rfl) en18 (c18 w0 w _ _ hI (hT.mono hle3) (some ⟨b1, 0, none⟩) 1 ([(ApiEvent.mk 7 0 q8e 3 0 q8z)] : List ApiEvent) hr4 0 1 _ hc5) ?_)
 rintro e w ⟨A10, cp11, rfl, hl8, hI⟩
 refine ⟨_, rfl, ?_⟩
 refine oP (r := [5, 6, 7]) [2, 3, 4] (S' := [(1, .slice (some ⟨b1, 0, none⟩) (([(ApiEvent.mk 7 0 q8e 3 0 q8z)] : List ApiEvent).length) 1), (18, .agg ((([iv y6] : LV) ++ (q8c y7) ++ ([.slice A10 y9.length cp11] : LV))).toArray), (19, .bool y12)]) ?_
 refine oC (jA (d := 2) (T := 26) q8b (by kernel_rfl) ty26 hI (by kernel_rfl) ?_)
 intro b13 w hI
 refine oC (dS (T := 26) (b := b13) (o := 0) (v := .agg ((([iv y6] : LV) ++ (q8c y7) ++ ([.slice A10 y9.length cp11] : LV))).toArray) (l := q8b) (vs := (([iv y6] : LV) ++ (q8c y7) ++ ([.slice A10 y9.length cp11] : LV))) (L' := (([iv y6] : LV) ++ (q8c y7) ++ ([.slice A10 y9.length cp11] : LV))) (by kernel_rfl) ty26 hI (by kernel_rfl) (by simp [cA_length, hl8]) (by rw [show List.length _ = 34 from (by simp [cA_length])]; kernel_rfl) (ones_app _ _ (ones_app _ _ (by kernel_rfl) (ones_cA _)) (by kernel_rfl)) (lset_all _ _ (Eq.trans (show List.length _ = 34 from (by simp [cA_length, hl8])) (Eq.symm (show List.length _ = 34 from (by simp [cA_length]))))) ?_)
 intro w hI
 refine oP (r := []) [7] (S' := [(1, .slice (some ⟨b1, 0, none⟩) (([(ApiEvent.mk 7 0 q8e 3 0 q8z)] : List ApiEvent).length) 1), (2, pb b13), (3, .bool y12)]) ?_
 refine oD (qT (cQ (cR [0, 1, 2, 3, 4, 5, 6] ?_)))
 refine oC (jY (jL (d := 21) (T := 26) (v := .agg ((([iv y6] : LV) ++ (q8c y7) ++ ([.slice A10 y9.length cp11] : LV))).toArray) (by kernel_rfl) (ldBN ty26 (l := (([iv y6] : LV) ++ (q8c y7) ++ ([.slice A10 y9.length cp11] : LV))) (o := 0) (cs := (([iv y6] : LV) ++ (q8c y7) ++ ([.slice A10 y9.length cp11] : LV))) (ent_refl _) (by simp [cA_length, hl8]) (whole _ _ (by simp [cA_length, hl8])))) hI ?_)
 have hI := hI.mono (pick2 _ _ _)
 obtain ⟨Z14, hle15, hr16, hI⟩ := ownS_freeze hI
 obtain ⟨⟨y18, y19⟩, hc17, h0⟩ := bindS h0
 try dsimp only at h0
 refine oC (jC (d := some 22) (n := 8) (vs := [.agg ((([iv y6] : LV) ++ (q8c y7) ++ ([.slice A10 y9.length cp11] : LV))).toArray]) (by kernel_rfl) en8 (c8 w0 w _ _ hI (hT.mono (Hp.le_trans hle3 hle15)) y6 y7 hl8 A10 cp11 y9 hr16 _ hc17) ?_)
 rintro e w ⟨rfl, hI⟩
 refine ⟨_, rfl, ?_⟩
 refine oP (r := []) [2, 3, 4, 5, 6] (S' := [(1, .slice (some ⟨b1, 0, none⟩) (([(ApiEvent.mk 7 0 q8e 3 0 q8z)] : List ApiEvent).length) 1), (2, pb b13), (3, .bool y12), (4, .string y18), (5, .bool y19)]) ?_
 refine oD (qT (cQ (cR [0, 1, 2, 3, 4, 5, 6, 7] ?_)))
 refine oP (r := [1, 2, 3, 4, 5, 6, 7]) [0] (S' := [(1, .slice (some ⟨b1, 0, none⟩) (([(ApiEvent.mk 7 0 q8e 3 0 q8z)] : List ApiEvent).length) 1), (2, pb b13), (3, .bool y12), (4, .string y18), (5, .bool y19), (26, .string y18)]) ?_
 obtain ⟨⟨y21, y22, y24, y27⟩, hc20, h0⟩ := bindS h0
 try dsimp only at h0
 refine oC (jC (d := some 27) (n := 16) (vs := [.string y18]) (by kernel_rfl) en16 (c16 w0 w _ _ hI (hT.mono (Hp.le_trans hle3 hle15)) y18 _ hc20) ?_)
 rintro e w ⟨A25, cp26, rfl, hl23, hI⟩
 refine ⟨_, rfl, ?_⟩
 refine oP (r := [5, 6, 7]) [2, 3, 4] (S' := [(1, .slice (some ⟨b1, 0, none⟩) (([(ApiEvent.mk 7 0 q8e 3 0 q8z)] : List ApiEvent).length) 1), (2, pb b13), (3, .bool y12), (4, .string y18), (5, .bool y19), (28, .agg ((([iv y21] : LV) ++ (q8c y22) ++ ([.slice A25 y24.length cp26] : LV))).toArray), (29, .bool y27)]) ?_
 refine oC (jA (d := 6) (T := 26) q8b (by kernel_rfl) ty26 hI (by kernel_rfl) ?_)
 intro b28 w hI
 refine oC (dS (T := 26) (b := b28) (o := 0) (v := .agg ((([iv y21] : LV) ++ (q8c y22) ++ ([.slice A25 y24.length cp26] : LV))).toArray) (l := q8b) (vs := (([iv y21] : LV) ++ (q8c y22) ++ ([.slice A25 y24.length cp26] : LV))) (L' := (([iv y21] : LV) ++ (q8c y22) ++ ([.slice A25 y24.length cp26] : LV))) (by kernel_rfl) ty26 hI (by kernel_rfl) (by simp [cA_length, hl23]) (by rw [show List.length _ = 34 from (by simp [cA_length])]; kernel_rfl) (ones_app _ _ (ones_app _ _ (by kernel_rfl) (ones_cA _)) (by kernel_rfl)) (lset_all _ _ (Eq.trans (show List.length _ = 34 from (by simp [cA_length, hl23])) (Eq.symm (show List.length _ = 34 from (by simp [cA_length]))))) ?_)
 intro w hI
 refine oP (r := []) [7] (S' := [(1, .slice (some ⟨b1, 0, none⟩) (([(ApiEvent.mk 7 0 q8e 3 0 q8z)] : List ApiEvent).length) 1), (2, pb b13), (3, .bool y12), (4, .string y18), (5, .bool y19), (6, pb b28), (7, .bool y27)]) ?_
 refine oD (qT (cQ (cR [0, 1, 2, 3, 4, 5, 6, 7] ?_)))
 obtain ⟨y30, hc29, h0⟩ := bindS h0
 try dsimp only at h0
 refine oC (jC (d := some 31) (n := 20) (vs := []) (by kernel_rfl) en20 (c20 w0 w _ _ hI (hT.mono (Hp.le_trans hle3 hle15)) _ hc29) ?_)
 rintro e w ⟨rfl, hl31, hI⟩
 refine ⟨_, rfl, ?_⟩
 refine oC (jY (Yl.buildB (d := 32) (T := 26) (ps := [(1, .agg (q8c y30).toArray)]) (cells := ((([iv 0] : LV) ++ (q8c y30) ++ ([.slice none 0 0] : LV))).toArray) (by kernel_rfl) ((built_all (places := [(0, 1), (1, 32), (33, 1)]) (lens := [1, 32, 1]) (zs := [([iv 0] : LV), cA (Value.int .u8) q8z, ([.slice none 0 0] : LV)]) (fun _ => by kernel_rfl) (by kernel_rfl) [(1, .agg (q8c y30).toArray, cA (Value.int .u8) y30)] (List.forall_mem_cons.2 ⟨⟨rfl, congrArg some ((cA_length _ _).trans hl31).symm, congrArg (fun n => some (1, n)) ((cA_length _ _).trans hl31).symm⟩, (fun _ h => by cases h)⟩)).trans (by first | rfl | simp))) hI ?_)
 obtain ⟨⟨y33, y34⟩, hc32, h0⟩ := bindS h0
 try dsimp only at h0
 refine oC (jC (d := some 33) (n := 8) (vs := [.agg ((([iv 0] : LV) ++ (q8c y30) ++ ([.slice none 0 0] : LV))).toArray]) (by kernel_rfl) en8 (c8 w0 w _ _ hI (hT.mono (Hp.le_trans hle3 hle15)) 0 y30 hl31 none 0 ([] : List ApiEvent) (RdS.nil _ _ _ _ _ (Nat.zero_le _)) _ hc32) ?_)
 rintro e w ⟨rfl, hI⟩
 refine ⟨_, rfl, ?_⟩
 refine oP (r := []) [3, 4, 5, 6, 7] (S' := [(1, .slice (some ⟨b1, 0, none⟩) (([(ApiEvent.mk 7 0 q8e 3 0 q8z)] : List ApiEvent).length) 1), (2, pb b13), (3, .bool y12), (4, .string y18), (5, .bool y19), (6, pb b28), (7, .bool y27), (8, .string y33), (9, .bool y34)]) ?_
 refine oD (qT (cQ (cR [0, 1, 2, 3, 4, 5, 6, 7, 8] ?_)))
 refine oP (r := [1, 2, 3, 4, 5, 6, 7, 8]) [0] (S' := [(1, .slice (some ⟨b1, 0, none⟩) (([(ApiEvent.mk 7 0 q8e 3 0 q8z)] : List ApiEvent).length) 1), (2, pb b13), (3, .bool y12), (5, .bool y19), (6, pb b28), (7, .bool y27), (8, .string y33), (9, .bool y34), (37, .string y18)]) ?_
 obtain ⟨hg35, h0⟩ := guardS h0
 refine oC (jY (Yl.cat (d := 38) (T := 9) (x := y18) (y := (⟨#[120]⟩ : ByteArray)) (by kernel_rfl) hg35) hI ?_)
 obtain ⟨⟨y37, y38, y40, y43⟩, hc36, h0⟩ := bindS h0
 try dsimp only at h0
 refine oC (jC (d := some 39) (n := 16) (vs := [.string (y18 ++ (⟨#[120]⟩ : ByteArray))]) (by kernel_rfl) en16 (c16 w0 w _ _ hI (hT.mono (Hp.le_trans hle3 hle15)) (y18 ++ (⟨#[120]⟩ : ByteArray)) _ hc36) ?_)
 rintro e w ⟨A41, cp42, rfl, hl39, hI⟩
 refine ⟨_, rfl, ?_⟩
 refine oP (r := [6, 7, 8]) [3, 4, 5] (S' := [(1, .slice (some ⟨b1, 0, none⟩) (([(ApiEvent.mk 7 0 q8e 3 0 q8z)] : List ApiEvent).length) 1), (2, pb b13), (3, .bool y12), (5, .bool y19), (6, pb b28), (7, .bool y27), (8, .string y33), (9, .bool y34), (40, .agg ((([iv y37] : LV) ++ (q8c y38) ++ ([.slice A41 y40.length cp42] : LV))).toArray), (41, .bool y43)]) ?_
 refine oC (jA (d := 10) (T := 26) q8b (by kernel_rfl) ty26 hI (by kernel_rfl) ?_)
 intro b44 w hI
 refine oC (dS (T := 26) (b := b44) (o := 0) (v := .agg ((([iv y37] : LV) ++ (q8c y38) ++ ([.slice A41 y40.length cp42] : LV))).toArray) (l := q8b) (vs := (([iv y37] : LV) ++ (q8c y38) ++ ([.slice A41 y40.length cp42] : LV))) (L' := (([iv y37] : LV) ++ (q8c y38) ++ ([.slice A41 y40.length cp42] : LV))) (by kernel_rfl) ty26 hI (by kernel_rfl) (by simp [cA_length, hl39]) (by rw [show List.length _ = 34 from (by simp [cA_length])]; kernel_rfl) (ones_app _ _ (ones_app _ _ (by kernel_rfl) (ones_cA _)) (by kernel_rfl)) (lset_all _ _ (Eq.trans (show List.length _ = 34 from (by simp [cA_length, hl39])) (Eq.symm (show List.length _ = 34 from (by simp [cA_length]))))) ?_)
 intro w hI
 refine oP (r := []) [8] (S' := [(1, .slice (some ⟨b1, 0, none⟩) (([(ApiEvent.mk 7 0 q8e 3 0 q8z)] : List ApiEvent).length) 1), (2, pb b13), (3, .bool y12), (5, .bool y19), (6, pb b28), (7, .bool y27), (8, .string y33), (9, .bool y34), (11, .bool y43)]) ?_
 refine oD (qT (cQ (cR [0, 1, 2, 3] ?_)))
 refine oP (r := [2, 3]) [0, 1] (S' := [(1, .slice (some ⟨b1, 0, none⟩) (([(ApiEvent.mk 7 0 q8e 3 0 q8z)] : List ApiEvent).length) 1), (2, pb b13), (3, .bool y12), (5, .bool y19), (6, pb b28), (7, .bool y27), (8, .string y33), (9, .bool y34), (11, .bool y43), (43, .agg ((([iv 7] : LV) ++ (q8c q8z) ++ ([.slice (some ⟨b1, 0, none⟩) (([(ApiEvent.mk 7 0 q8e 3 0 q8z)] : List ApiEvent).length) 1] : LV))).toArray)]) ?_
 obtain ⟨y46, hc45, h0⟩ := bindS h0
 try dsimp only at h0
 refine oC (jC (d := some 44) (n := 13) (vs := [.agg ((([iv 7] : LV) ++ (q8c q8z) ++ ([.slice (some ⟨b1, 0, none⟩) (([(ApiEvent.mk 7 0 q8e 3 0 q8z)] : List ApiEvent).length) 1] : LV))).toArray]) (by kernel_rfl) en13 (c13 w0 w _ _ hI (hT.mono (Hp.le_trans hle3 hle15)) 7 q8z (by kernel_rfl) (some ⟨b1, 0, none⟩) 1 ([(ApiEvent.mk 7 0 q8e 3 0 q8z)] : List ApiEvent) (hr4.mono hle15) _ hc45) ?_)
 rintro e w ⟨A47, cp48, rfl, hI⟩
 refine ⟨_, rfl, ?_⟩
 refine oP (r := []) [3] (S' := [(1, .slice (some ⟨b1, 0, none⟩) (([(ApiEvent.mk 7 0 q8e 3 0 q8z)] : List ApiEvent).length) 1), (2, pb b13), (3, .bool y12), (5, .bool y19), (6, pb b28), (7, .bool y27), (8, .string y33), (9, .bool y34), (11, .bool y43), (12, .slice A47 y46.length cp48)]) ?_
 refine oD (qT ?_)
 obtain ⟨r1, h1, h0⟩ := bindS h0
 refine jM (fun a w => ∃ (x51 : Bool) (Z49 : Hp), x51 = r1 ∧ Fr 104 [(0, .bool x51)] a ∧ Inv w0 Z49 w A ∧ Z14.le Z49) ?_ ?_
 ·
  have hI := hI.mono (pick5 _ _ _ _ _ _)
  obtain ⟨Z52, hle53, hr54, hI⟩ := ownS_freeze hI
  refine CodT.drawI (n := 60) [] (by kernel_rfl) (by kernel_rfl) hI ?_
  intro w hI
  refine gP 0 45 (.bool y12) ?_
  refine gP 1 46 (.bool y12) ?_
  by_cases hb55 : y12 = true
  ·
   rw [if_pos hb55] at h1
   refine GmT.keep [1, 2, 5, 6, 7, 8, 9, 11, 12, 46] (S' := [(1, .slice (some ⟨b1, 0, none⟩) (([(ApiEvent.mk 7 0 q8e 3 0 q8z)] : List ApiEvent).length) 1), (2, pb b13), (5, .bool y19), (6, pb b28), (7, .bool y27), (8, .string y33), (9, .bool y34), (11, .bool y43), (12, .slice A47 y46.length cp48), (46, .bool true)]) (by (try simp only [hb55]); kernel_rfl) ?_
   refine gP 2 47 (.bool y19) ?_
   refine gP 3 48 (.bool y19) ?_
   refine gP 4 49 (.bool y19) ?_
   by_cases hb56 : y19 = true
   ·
    rw [if_pos hb56] at h1
    refine GmT.keep [1, 2, 6, 7, 8, 9, 11, 12, 49] (S' := [(1, .slice (some ⟨b1, 0, none⟩) (([(ApiEvent.mk 7 0 q8e 3 0 q8z)] : List ApiEvent).length) 1), (2, pb b13), (6, pb b28), (7, .bool y27), (8, .string y33), (9, .bool y34), (11, .bool y43), (12, .slice A47 y46.length cp48), (49, .bool true)]) (by (try simp only [hb56]); kernel_rfl) ?_
    refine gP 5 50 (.bool y27) ?_
    refine gP 6 51 (.bool y27) ?_
    refine gP 7 52 (.bool y27) ?_
    by_cases hb57 : y27 = true
    ·
     rw [if_pos hb57] at h1
     refine GmT.keep [1, 2, 6, 8, 9, 11, 12, 52] (S' := [(1, .slice (some ⟨b1, 0, none⟩) (([(ApiEvent.mk 7 0 q8e 3 0 q8z)] : List ApiEvent).length) 1), (2, pb b13), (6, pb b28), (8, .string y33), (9, .bool y34), (11, .bool y43), (12, .slice A47 y46.length cp48), (52, .bool true)]) (by (try simp only [hb57]); kernel_rfl) ?_
     refine gP 8 53 (.bool y34) ?_
     refine gP 9 54 (.bool y34) ?_
     refine gP 10 55 (.bool y34) ?_
     by_cases hb58 : y34 = true
     ·
      rw [if_pos hb58] at h1
      refine GmT.keep [1, 2, 6, 8, 11, 12, 55] (S' := [(1, .slice (some ⟨b1, 0, none⟩) (([(ApiEvent.mk 7 0 q8e 3 0 q8z)] : List ApiEvent).length) 1), (2, pb b13), (6, pb b28), (8, .string y33), (11, .bool y43), (12, .slice A47 y46.length cp48), (55, .bool true)]) (by (try simp only [hb58]); kernel_rfl) ?_
      refine gP 11 56 (.bool y43) ?_
      refine gP 12 57 (.bool (!y43)) ?_
      refine gP 13 58 (.bool (!y43)) ?_
      refine gP 14 59 (.bool (!y43)) ?_
      by_cases hb59 : (!y43) = true
      ·
       rw [if_pos hb59] at h1
       refine GmT.keep [1, 2, 6, 8, 12, 59] (S' := [(1, .slice (some ⟨b1, 0, none⟩) (([(ApiEvent.mk 7 0 q8e 3 0 q8z)] : List ApiEvent).length) 1), (2, pb b13), (6, pb b28), (8, .string y33), (12, .slice A47 y46.length cp48), (59, .bool true)]) (by (try simp only [hb59]); kernel_rfl) ?_
       refine gP 15 60 (.string y33) ?_
       refine gP 16 61 (iv (y33.size : Int)) ?_
       refine gP 17 62 (.bool ((y33.size : Int) == 38)) ?_
       refine gP 18 63 (.bool ((y33.size : Int) == 38)) ?_
       refine gP 19 64 (.bool ((y33.size : Int) == 38)) ?_
       by_cases hb60 : ((y33.size : Int) == 38) = true
       ·
        rw [if_pos hb60] at h1
        refine GmT.keep [1, 2, 6, 8, 12, 64] (S' := [(1, .slice (some ⟨b1, 0, none⟩) (([(ApiEvent.mk 7 0 q8e 3 0 q8z)] : List ApiEvent).length) 1), (2, pb b13), (6, pb b28), (8, .string y33), (12, .slice A47 y46.length cp48), (64, .bool true)]) (by (try simp only [hb60]); kernel_rfl) ?_
        refine gP 20 65 (.string y33) ?_
        obtain ⟨hg61, h1⟩ := guardS h1
        refine gR (i := 21) 2 (Yl.sliceStr01 (d := 66) (T := 9) (s := y33) (hi := 5) (by kernel_rfl) Go.Proofs.Tryz.underlying9 hg61) hI ?_
        refine jO (i := 22) (by kernel_rfl) (Does.buildSlice (en := (cI .u8)) (d := 67) (n := 1) (T := 52) (ps := [(0, .int .u8 0)]) ([0] : List Int) (by kernel_rfl) Go.Proofs.Tryz.underlying52 ty5 (by kernel_rfl) (by kernel_rfl) (by kernel_rfl) (by kernel_rfl) (len_all (fun _ => rfl)) hI ?_)
        intro b62 w hI
        have hC := hI
        have hC := hC.drop
        refine ⟨fun _ _ => hC, ?_⟩
        refine jO (i := 23) (by kernel_rfl) (Does.b2sOwn (d := 68) (src := 52) (dst := 9) (xs := ([0] : List Int)) (by kernel_rfl) Go.Proofs.Tryz.underlying52 Go.Proofs.Tryz.underlying5 Go.Proofs.Tryz.underlying9 hI ?_)
        have hC := hI
        have hC := hC.drop
        refine ⟨fun _ _ => hC, ?_⟩
        obtain ⟨hg63, h1⟩ := guardS h1
        have hC := hI
        have hC := hC.drop
        refine gR (i := 24) 2 (Yl.cat (d := 69) (T := 9) (x := (⟨#[67, 69, 78, 79]⟩ : ByteArray)) (y := strOfNums ([0] : List Int)) (by kernel_rfl) hg63) hC ?_
        refine gP 25 70 (.bool (seq (sx y33 0 5) ((⟨#[67, 69, 78, 79]⟩ : ByteArray) ++ (strOfNums ([0] : List Int))))) ?_
        refine gP 26 71 (.bool (seq (sx y33 0 5) ((⟨#[67, 69, 78, 79]⟩ : ByteArray) ++ (strOfNums ([0] : List Int))))) ?_
        refine gP 27 72 (.bool (seq (sx y33 0 5) ((⟨#[67, 69, 78, 79]⟩ : ByteArray) ++ (strOfNums ([0] : List Int))))) ?_
        by_cases hb64 : (seq (sx y33 0 5) ((⟨#[67, 69, 78, 79]⟩ : ByteArray) ++ (strOfNums ([0] : List Int)))) = true
        ·
         rw [if_pos hb64] at h1
         refine GmT.keep [1, 2, 6, 12, 72] (S' := [(1, .slice (some ⟨b1, 0, none⟩) (([(ApiEvent.mk 7 0 q8e 3 0 q8z)] : List ApiEvent).length) 1), (2, pb b13), (6, pb b28), (12, .slice A47 y46.length cp48), (72, .bool true)]) (by (try simp only [hb64]); kernel_rfl) ?_
         have hC := hI
         have hC := hC.drop
         refine gR (i := 28) 2 (jL (d := 73) (T := 26) (v := .agg ((([iv y6] : LV) ++ (q8c y7) ++ ([.slice A10 y9.length cp11] : LV))).toArray) (by kernel_rfl) (ldBN ty26 (l := (([iv y6] : LV) ++ (q8c y7) ++ ([.slice A10 y9.length cp11] : LV))) (o := 0) (cs := (([iv y6] : LV) ++ (q8c y7) ++ ([.slice A10 y9.length cp11] : LV))) (pick5 _ _ _ _ _ _) (by simp [cA_length, hl8]) (whole _ _ (by simp [cA_length, hl8])))) hC ?_
         have hC := hI
         have hC := hC.drop
         refine gR (i := 29) 2 (jL (d := 74) (T := 26) (v := .agg ((([iv y21] : LV) ++ (q8c y22) ++ ([.slice A25 y24.length cp26] : LV))).toArray) (by kernel_rfl) (ldBN ty26 (l := (([iv y21] : LV) ++ (q8c y22) ++ ([.slice A25 y24.length cp26] : LV))) (o := 0) (cs := (([iv y21] : LV) ++ (q8c y22) ++ ([.slice A25 y24.length cp26] : LV))) (pick4 _ _ _ _ _) (by simp [cA_length, hl23]) (whole _ _ (by simp [cA_length, hl23])))) hC ?_
         obtain ⟨y66, hc65, h1⟩ := bindS h1
         try dsimp only at h1
         refine jO (i := 30) (by kernel_rfl) (jC (d := some 75) (n := 15) (vs := [.agg ((([iv y6] : LV) ++ (q8c y7) ++ ([.slice A10 y9.length cp11] : LV))).toArray, .agg ((([iv y21] : LV) ++ (q8c y22) ++ ([.slice A25 y24.length cp26] : LV))).toArray]) (by kernel_rfl) en15 (c15 w0 w _ _ hI (hT.mono (Hp.le_trans (Hp.le_trans hle3 hle15) hle53)) y6 y7 hl8 A10 cp11 y9 (hr16.mono hle53) y21 y22 hl23 A25 cp26 y24 hr54 _ hc65) ?_)
         rintro e w ⟨rfl, hI⟩
         refine ⟨_, rfl, ?_⟩
         have hC := hI
         have hC := hC.drop
         refine ⟨fun _ _ => hC, ?_⟩
         refine gP 31 76 (.bool y66) ?_
         refine gP 32 77 (.bool y66) ?_
         by_cases hb67 : y66 = true
         ·
          rw [if_pos hb67] at h1
          refine GmT.keep [1, 6, 12, 77] (S' := [(1, .slice (some ⟨b1, 0, none⟩) (([(ApiEvent.mk 7 0 q8e 3 0 q8z)] : List ApiEvent).length) 1), (6, pb b28), (12, .slice A47 y46.length cp48), (77, .bool true)]) (by (try simp only [hb67]); kernel_rfl) ?_
          refine gP 33 78 (.pointer (some ⟨b28, 33, none⟩)) ?_
          have hC := hI
          have hC := hC.drop
          refine gR (i := 34) 2 (jL (d := 79) (T := 24) (v := .slice A25 y24.length cp26) (by kernel_rfl) (ldB ty24 (l := (([iv y21] : LV) ++ (q8c y22) ++ ([.slice A25 y24.length cp26] : LV))) (o := 33) (v := .slice A25 y24.length cp26) (pick4 _ _ _ _ _) (seg_get [([iv y21] : LV), cA (Value.int .u8) y22, ([.slice A25 y24.length cp26] : LV)] 2 (by simp [cA_length, hl23]) (by simp [cA_length, hl23]) rfl))) hC ?_
          refine gP 35 80 (iv (y24.length : Int)) ?_
          refine gP 36 81 (.bool ((y24.length : Int) == 1)) ?_
          refine gP 37 82 (.bool ((y24.length : Int) == 1)) ?_
          refine gP 38 83 (.bool ((y24.length : Int) == 1)) ?_
          by_cases hb68 : ((y24.length : Int) == 1) = true
          ·
           rw [if_pos hb68] at h1
           refine GmT.keep [1, 6, 12, 83] (S' := [(1, .slice (some ⟨b1, 0, none⟩) (([(ApiEvent.mk 7 0 q8e 3 0 q8z)] : List ApiEvent).length) 1), (6, pb b28), (12, .slice A47 y46.length cp48), (83, .bool true)]) (by (try simp only [hb68]); kernel_rfl) ?_
           refine gP 39 84 (.pointer (some ⟨b28, 33, none⟩)) ?_
           refine gP 43 88 (.slice (some ⟨b1, 0, none⟩) (([(ApiEvent.mk 7 0 q8e 3 0 q8z)] : List ApiEvent).length) 1) ?_
           have hC := hI
           have hC := hC.drop
           refine gR (i := 40) 2 (jL (d := 85) (T := 24) (v := .slice A25 y24.length cp26) (by kernel_rfl) (ldB ty24 (l := (([iv y21] : LV) ++ (q8c y22) ++ ([.slice A25 y24.length cp26] : LV))) (o := 33) (v := .slice A25 y24.length cp26) (pick4 _ _ _ _ _) (seg_get [([iv y21] : LV), cA (Value.int .u8) y22, ([.slice A25 y24.length cp26] : LV)] 2 (by simp [cA_length, hl23]) (by simp [cA_length, hl23]) rfl))) hC ?_
           obtain ⟨hg69, h1⟩ := guardS h1
           obtain ⟨g70, o74, hA71, hr72, hl73⟩ := RdS.get hr54 hg69.1 hg69.2
           have hC := hI
           have hC := hC.drop
           refine gR (i := 41) 2 (Yl.indexSlice (d := 86) (T := 24) (cc := cp26) (k := .i64) (j := 0) (g := g70) (o := o74) (by kernel_rfl) Go.Proofs.Tryz.underlying24 ty50 hA71 hg69.1 hg69.2) hC ?_
           have hC := hI
           have hC := hC.drop
           refine gR (i := 42) 2 (jL (d := 87) (T := 50) (v := .agg (c_ApiEvent (gt y24 0)).toArray) (by kernel_rfl) (ldRN ty50 (cs := c_ApiEvent (gt y24 0)) 0 (fun w hC => hr72 w0 w _ hC) hl73 (whole _ _ hl73))) hC ?_
           obtain ⟨hg75, h1⟩ := guardS h1
           obtain ⟨g76, o80, hA77, hr78, hl79⟩ := RdS.get (hr4.mono (Hp.le_trans hle15 hle53)) hg75.1 hg75.2
           have hC := hI
           have hC := hC.drop
           refine gR (i := 44) 2 (Yl.indexSlice (d := 89) (T := 24) (cc := 1) (k := .i64) (j := 0) (g := g76) (o := o80) (by kernel_rfl) Go.Proofs.Tryz.underlying24 ty50 hA77 hg75.1 hg75.2) hC ?_
           have hC := hI
           have hC := hC.drop
           refine gR (i := 45) 2 (jL (d := 90) (T := 50) (v := .agg (c_ApiEvent (gt ([(ApiEvent.mk 7 0 q8e 3 0 q8z)] : List ApiEvent) 0)).toArray) (by kernel_rfl) (ldRN ty50 (cs := c_ApiEvent (gt ([(ApiEvent.mk 7 0 q8e 3 0 q8z)] : List ApiEvent) 0)) 0 (fun w hC => hr78 w0 w _ hC) hl79 (whole _ _ hl79))) hC ?_
           have hC := hI
           have hC := hC.drop
           refine gR (i := 46) 2 (Yl.eqlS (d := 91) (T := 50) (xs := ([iv ((gt y24 0).Kind), iv ((gt y24 0).ID), .string ((gt y24 0).Name), iv ((gt y24 0).Time), iv ((gt y24 0).Len)] : LV) ++ (q8c ((gt y24 0).Sum))) (ys := ([iv ((gt ([(ApiEvent.mk 7 0 q8e 3 0 q8z)] : List ApiEvent) 0).Kind), iv ((gt ([(ApiEvent.mk 7 0 q8e 3 0 q8z)] : List ApiEvent) 0).ID), .string ((gt ([(ApiEvent.mk 7 0 q8e 3 0 q8z)] : List ApiEvent) 0).Name), iv ((gt ([(ApiEvent.mk 7 0 q8e 3 0 q8z)] : List ApiEvent) 0).Time), iv ((gt ([(ApiEvent.mk 7 0 q8e 3 0 q8z)] : List ApiEvent) 0).Len)] : LV) ++ (q8c ((gt ([(ApiEvent.mk 7 0 q8e 3 0 q8z)] : List ApiEvent) 0).Sum))) (r := eq_ApiEvent (gt y24 0) (gt ([(ApiEvent.mk 7 0 q8e 3 0 q8z)] : List ApiEvent) 0)) (by kernel_rfl) Go.Proofs.Tryz.underlying50 (by kernel_rfl) (by kernel_rfl) (.cons rfl (part1 (v := iv ((gt y24 0).Kind)) ty48 (by kernel_rfl)) (part1 (v := iv ((gt ([(ApiEvent.mk 7 0 q8e 3 0 q8z)] : List ApiEvent) 0).Kind)) ty48 (by kernel_rfl)) (eqI Go.Proofs.Tryz.underlying48) (.cons rfl (part1 (v := iv ((gt y24 0).ID)) ty3 (by kernel_rfl)) (part1 (v := iv ((gt ([(ApiEvent.mk 7 0 q8e 3 0 q8z)] : List ApiEvent) 0).ID)) ty3 (by kernel_rfl)) (eqI Go.Proofs.Tryz.underlying3) (.cons rfl (part1 (v := .string ((gt y24 0).Name)) ty9 (by kernel_rfl)) (part1 (v := .string ((gt ([(ApiEvent.mk 7 0 q8e 3 0 q8z)] : List ApiEvent) 0).Name)) ty9 (by kernel_rfl)) (eqS Go.Proofs.Tryz.underlying9) (.cons rfl (part1 (v := iv ((gt y24 0).Time)) ty3 (by kernel_rfl)) (part1 (v := iv ((gt ([(ApiEvent.mk 7 0 q8e 3 0 q8z)] : List ApiEvent) 0).Time)) ty3 (by kernel_rfl)) (eqI Go.Proofs.Tryz.underlying3) (.cons rfl (part1 (v := iv ((gt y24 0).Len)) ty3 (by kernel_rfl)) (part1 (v := iv ((gt ([(ApiEvent.mk 7 0 q8e 3 0 q8z)] : List ApiEvent) 0).Len)) ty3 (by kernel_rfl)) (eqI Go.Proofs.Tryz.underlying3) (.cons rfl (partN ty23 (tail_take _ _ _ _ _ (by kernel_rfl) (inv_ApiEvent _ hl73))) (partN ty23 (tail_take _ _ _ _ _ (by kernel_rfl) (inv_ApiEvent _ hl79))) (eqAr Go.Proofs.Tryz.underlying23 Go.Proofs.Tryz.underlying5 ty5 (inv_ApiEvent _ hl73) (inv_ApiEvent _ hl79)) .nil))))))) hC ?_
           refine gP 47 92 (.bool (eq_ApiEvent (gt y24 0) (gt ([(ApiEvent.mk 7 0 q8e 3 0 q8z)] : List ApiEvent) 0))) ?_
           refine gP 48 93 (.bool (eq_ApiEvent (gt y24 0) (gt ([(ApiEvent.mk 7 0 q8e 3 0 q8z)] : List ApiEvent) 0))) ?_
           by_cases hb81 : (eq_ApiEvent (gt y24 0) (gt ([(ApiEvent.mk 7 0 q8e 3 0 q8z)] : List ApiEvent) 0)) = true
           ·
            rw [if_pos hb81] at h1
            refine GmT.keep [12, 93] (S' := [(12, .slice A47 y46.length cp48), (93, .bool true)]) (by (try simp only [hb81]); kernel_rfl) ?_
            refine gP 49 94 (.slice A47 y46.length cp48) ?_
            refine gP 50 95 (iv (y46.length : Int)) ?_
            refine gP 51 96 (.bool ((y46.length : Int) == 1)) ?_
            refine gP 52 97 (.bool ((y46.length : Int) == 1)) ?_
            refine gP 53 98 (.bool ((y46.length : Int) == 1)) ?_
            by_cases hb82 : ((y46.length : Int) == 1) = true
            ·
             rw [if_pos hb82] at h1
             refine GmT.keep [12, 98] (S' := [(12, .slice A47 y46.length cp48), (98, .bool true)]) (by (try simp only [hb82]); kernel_rfl) ?_
             refine gP 54 99 (.slice A47 y46.length cp48) ?_
             obtain ⟨hg83, h1⟩ := guardS h1
             obtain ⟨g84, hA85, hr86, hl87⟩ := ownS_get (hI.mono (pick2 _ _ _)) hg83.1 hg83.2
             have hC := hI
             have hC := hC.drop
             refine gR (i := 55) 2 (Yl.indexSlice (d := 100) (T := 36) (cc := cp48) (k := .i64) (j := 0) (g := g84) (o := 0) (by kernel_rfl) Go.Proofs.Tryz.underlying36 ty9 hA85 hg83.1 hg83.2) hC ?_
             have hC := hI
             have hC := hC.drop
             refine gR (i := 56) 2 (jL (d := 101) (T := 9) (v := .string (gt y46 0)) (by kernel_rfl) (ldR ty9 (v := .string (gt y46 0)) 0 (fun w hC => hr86 w0 w _ hC) (by kernel_rfl))) hC ?_
             refine gP 57 102 (.bool (seq (gt y46 0) (⟨#[55, 58, 32, 116, 105, 99, 107, 32, 51]⟩ : ByteArray))) ?_
             refine gP 58 103 (.bool (seq (gt y46 0) (⟨#[55, 58, 32, 116, 105, 99, 107, 32, 51]⟩ : ByteArray))) ?_
             refine gP 59 0 (.bool (seq (gt y46 0) (⟨#[55, 58, 32, 116, 105, 99, 107, 32, 51]⟩ : ByteArray))) ?_
             refine jD (by kernel_rfl) ?_
             have hI := hI.drop
             have hI := hI.drop
             have hI := hI.drop
             have hI := hI.drop
             have hI := hI.drop
             have hI := hI.drop
             have e := someS h1
             subst e
             exact jT fun a ha => ⟨seq (gt y46 0) (⟨#[55, 58, 32, 116, 105, 99, 107, 32, 51]⟩ : ByteArray), Z52, rfl, ha.keep [0] (by kernel_rfl), hI, hle53⟩
            ·
             rw [if_neg hb82] at h1
             have hb82 : ((y46.length : Int) == 1) = false := by simpa using hb82
             refine GmT.keep [12, 98] (S' := [(12, .slice A47 y46.length cp48), (98, .bool false)]) (by (try simp only [hb82]); kernel_rfl) ?_
             refine gP 54 99 (undef) ?_
             refine gP 55 100 (undef) ?_
             refine gP 56 101 (undef) ?_
             refine gP 57 102 (undef) ?_
             refine gP 58 103 (.bool false) ?_
             refine gP 59 0 (.bool false) ?_
             refine jD (by kernel_rfl) ?_
             have hI := hI.drop
             have hI := hI.drop
             have hI := hI.drop
             have hI := hI.drop
             have hI := hI.drop
             have hI := hI.drop
             have e := someS h1
             subst e
             exact jT fun a ha => ⟨false, Z52, rfl, ha.keep [0] (by kernel_rfl), hI, hle53⟩
           ·
            rw [if_neg hb81] at h1
            have hb81 : (eq_ApiEvent (gt y24 0) (gt ([(ApiEvent.mk 7 0 q8e 3 0 q8z)] : List ApiEvent) 0)) = false := by simpa using hb81
            refine GmT.keep [12, 93] (S' := [(12, .slice A47 y46.length cp48), (93, .bool false)]) (by (try simp only [hb81]); kernel_rfl) ?_
            refine gP 49 94 (undef) ?_
            refine gP 50 95 (undef) ?_
            refine gP 51 96 (undef) ?_
            refine gP 52 97 (.bool false) ?_
            refine gP 53 98 (.bool false) ?_
            refine gP 54 99 (undef) ?_
            refine gP 55 100 (undef) ?_
            refine gP 56 101 (undef) ?_
            refine gP 57 102 (undef) ?_
            refine gP 58 103 (.bool false) ?_
            refine gP 59 0 (.bool false) ?_
            refine jD (by kernel_rfl) ?_
            have hI := hI.drop
            have hI := hI.drop
            have hI := hI.drop
            have hI := hI.drop
            have hI := hI.drop
            have hI := hI.drop
            have e := someS h1
            subst e
            exact jT fun a ha => ⟨false, Z52, rfl, ha.keep [0] (by kernel_rfl), hI, hle53⟩
          ·
           rw [if_neg hb68] at h1
           have hb68 : ((y24.length : Int) == 1) = false := by simpa using hb68
           refine GmT.keep [1, 6, 12, 83] (S' := [(1, .slice (some ⟨b1, 0, none⟩) (([(ApiEvent.mk 7 0 q8e 3 0 q8z)] : List ApiEvent).length) 1), (6, pb b28), (12, .slice A47 y46.length cp48), (83, .bool false)]) (by (try simp only [hb68]); kernel_rfl) ?_
           refine gP 39 84 (undef) ?_
           refine gP 40 85 (undef) ?_
           refine gP 41 86 (undef) ?_
           refine gP 42 87 (undef) ?_
           refine gP 43 88 (undef) ?_
           refine gP 44 89 (undef) ?_
           refine gP 45 90 (undef) ?_
           refine gP 46 91 (undef) ?_
           refine gP 47 92 (.bool false) ?_
           refine gP 48 93 (.bool false) ?_
           refine gP 49 94 (undef) ?_
           refine gP 50 95 (undef) ?_
           refine gP 51 96 (undef) ?_
           refine gP 52 97 (.bool false) ?_
           refine gP 53 98 (.bool false) ?_
           refine gP 54 99 (undef) ?_
           refine gP 55 100 (undef) ?_
           refine gP 56 101 (undef) ?_
           refine gP 57 102 (undef) ?_
           refine gP 58 103 (.bool false) ?_
           refine gP 59 0 (.bool false) ?_
           refine jD (by kernel_rfl) ?_
           have hI := hI.drop
           have hI := hI.drop
           have hI := hI.drop
           have hI := hI.drop
           have hI := hI.drop
           have hI := hI.drop
           have e := someS h1
           subst e
           exact jT fun a ha => ⟨false, Z52, rfl, ha.keep [0] (by kernel_rfl), hI, hle53⟩
         ·
          rw [if_neg hb67] at h1
          have hb67 : y66 = false := by simpa using hb67
          refine GmT.keep [1, 6, 12, 77] (S' := [(1, .slice (some ⟨b1, 0, none⟩) (([(ApiEvent.mk 7 0 q8e 3 0 q8z)] : List ApiEvent).length) 1), (6, pb b28), (12, .slice A47 y46.length cp48), (77, .bool false)]) (by (try simp only [hb67]); kernel_rfl) ?_
          refine gP 33 78 (undef) ?_
          refine gP 34 79 (undef) ?_
          refine gP 35 80 (undef) ?_
          refine gP 36 81 (undef) ?_
          refine gP 37 82 (.bool false) ?_
          refine gP 38 83 (.bool false) ?_
          refine gP 39 84 (undef) ?_
          refine gP 40 85 (undef) ?_
          refine gP 41 86 (undef) ?_
          refine gP 42 87 (undef) ?_
          refine gP 43 88 (undef) ?_
          refine gP 44 89 (undef) ?_
          refine gP 45 90 (undef) ?_
          refine gP 46 91 (undef) ?_
          refine gP 47 92 (.bool false) ?_
          refine gP 48 93 (.bool false) ?_
          refine gP 49 94 (undef) ?_
          refine gP 50 95 (undef) ?_
          refine gP 51 96 (undef) ?_
          refine gP 52 97 (.bool false) ?_
          refine gP 53 98 (.bool false) ?_
          refine gP 54 99 (undef) ?_
          refine gP 55 100 (undef) ?_
          refine gP 56 101 (undef) ?_
          refine gP 57 102 (undef) ?_
          refine gP 58 103 (.bool false) ?_
          refine gP 59 0 (.bool false) ?_
          refine jD (by kernel_rfl) ?_
          have hI := hI.drop
          have hI := hI.drop
          have hI := hI.drop
          have hI := hI.drop
          have hI := hI.drop
          have hI := hI.drop
          have e := someS h1
          subst e
          exact jT fun a ha => ⟨false, Z52, rfl, ha.keep [0] (by kernel_rfl), hI, hle53⟩
        ·
         rw [if_neg hb64] at h1
         have hb64 : (seq (sx y33 0 5) ((⟨#[67, 69, 78, 79]⟩ : ByteArray) ++ (strOfNums ([0] : List Int)))) = false := by simpa using hb64
         refine GmT.keep [1, 2, 6, 12, 72] (S' := [(1, .slice (some ⟨b1, 0, none⟩) (([(ApiEvent.mk 7 0 q8e 3 0 q8z)] : List ApiEvent).length) 1), (2, pb b13), (6, pb b28), (12, .slice A47 y46.length cp48), (72, .bool false)]) (by (try simp only [hb64]); kernel_rfl) ?_
         refine gP 28 73 (undef) ?_
         refine gP 29 74 (undef) ?_
         refine gP 30 75 (undef) ?_
         refine gP 31 76 (.bool false) ?_
         refine gP 32 77 (.bool false) ?_
         refine gP 33 78 (undef) ?_
         refine gP 34 79 (undef) ?_
         refine gP 35 80 (undef) ?_
         refine gP 36 81 (undef) ?_
         refine gP 37 82 (.bool false) ?_
         refine gP 38 83 (.bool false) ?_
         refine gP 39 84 (undef) ?_
         refine gP 40 85 (undef) ?_
         refine gP 41 86 (undef) ?_
         refine gP 42 87 (undef) ?_
         refine gP 43 88 (undef) ?_
         refine gP 44 89 (undef) ?_
         refine gP 45 90 (undef) ?_
         refine gP 46 91 (undef) ?_
         refine gP 47 92 (.bool false) ?_
         refine gP 48 93 (.bool false) ?_
         refine gP 49 94 (undef) ?_
         refine gP 50 95 (undef) ?_
         refine gP 51 96 (undef) ?_
         refine gP 52 97 (.bool false) ?_
         refine gP 53 98 (.bool false) ?_
         refine gP 54 99 (undef) ?_
         refine gP 55 100 (undef) ?_
         refine gP 56 101 (undef) ?_
         refine gP 57 102 (undef) ?_
         refine gP 58 103 (.bool false) ?_
         refine gP 59 0 (.bool false) ?_
         refine jD (by kernel_rfl) ?_
         have hI := hI.drop
         have hI := hI.drop
         have hI := hI.drop
         have hI := hI.drop
         have hI := hI.drop
         have hI := hI.drop
         have e := someS h1
         subst e
         exact jT fun a ha => ⟨false, Z52, rfl, ha.keep [0] (by kernel_rfl), hI, hle53⟩
       ·
        rw [if_neg hb60] at h1
        have hb60 : ((y33.size : Int) == 38) = false := by simpa using hb60
        refine GmT.keep [1, 2, 6, 8, 12, 64] (S' := [(1, .slice (some ⟨b1, 0, none⟩) (([(ApiEvent.mk 7 0 q8e 3 0 q8z)] : List ApiEvent).length) 1), (2, pb b13), (6, pb b28), (8, .string y33), (12, .slice A47 y46.length cp48), (64, .bool false)]) (by (try simp only [hb60]); kernel_rfl) ?_
        refine gP 20 65 (undef) ?_
        refine gP 21 66 (undef) ?_
        refine gP 22 67 (undef) ?_
        refine gP 23 68 (undef) ?_
        refine gP 24 69 (undef) ?_
        refine gP 25 70 (undef) ?_
        refine gP 26 71 (.bool false) ?_
        refine gP 27 72 (.bool false) ?_
        refine gP 28 73 (undef) ?_
        refine gP 29 74 (undef) ?_
        refine gP 30 75 (undef) ?_
        refine gP 31 76 (.bool false) ?_
        refine gP 32 77 (.bool false) ?_
        refine gP 33 78 (undef) ?_
        refine gP 34 79 (undef) ?_
        refine gP 35 80 (undef) ?_
        refine gP 36 81 (undef) ?_
        refine gP 37 82 (.bool false) ?_
        refine gP 38 83 (.bool false) ?_
        refine gP 39 84 (undef) ?_
        refine gP 40 85 (undef) ?_
        refine gP 41 86 (undef) ?_
        refine gP 42 87 (undef) ?_
        refine gP 43 88 (undef) ?_
        refine gP 44 89 (undef) ?_
        refine gP 45 90 (undef) ?_
        refine gP 46 91 (undef) ?_
        refine gP 47 92 (.bool false) ?_
        refine gP 48 93 (.bool false) ?_
        refine gP 49 94 (undef) ?_
        refine gP 50 95 (undef) ?_
        refine gP 51 96 (undef) ?_
        refine gP 52 97 (.bool false) ?_
        refine gP 53 98 (.bool false) ?_
        refine gP 54 99 (undef) ?_
        refine gP 55 100 (undef) ?_
        refine gP 56 101 (undef) ?_
        refine gP 57 102 (undef) ?_
        refine gP 58 103 (.bool false) ?_
        refine gP 59 0 (.bool false) ?_
        refine jD (by kernel_rfl) ?_
        have hI := hI.drop
        have hI := hI.drop
        have hI := hI.drop
        have hI := hI.drop
        have hI := hI.drop
        have e := someS h1
        subst e
        exact jT fun a ha => ⟨false, Z52, rfl, ha.keep [0] (by kernel_rfl), hI, hle53⟩
      ·
       rw [if_neg hb59] at h1
       have hb59 : (!y43) = false := by simpa using hb59
       refine GmT.keep [1, 2, 6, 8, 12, 59] (S' := [(1, .slice (some ⟨b1, 0, none⟩) (([(ApiEvent.mk 7 0 q8e 3 0 q8z)] : List ApiEvent).length) 1), (2, pb b13), (6, pb b28), (8, .string y33), (12, .slice A47 y46.length cp48), (59, .bool false)]) (by (try simp only [hb59]); kernel_rfl) ?_
       refine gP 15 60 (undef) ?_
       refine gP 16 61 (undef) ?_
       refine gP 17 62 (undef) ?_
       refine gP 18 63 (.bool false) ?_
       refine gP 19 64 (.bool false) ?_
       refine gP 20 65 (undef) ?_
       refine gP 21 66 (undef) ?_
       refine gP 22 67 (undef) ?_
       refine gP 23 68 (undef) ?_
       refine gP 24 69 (undef) ?_
       refine gP 25 70 (undef) ?_
       refine gP 26 71 (.bool false) ?_
       refine gP 27 72 (.bool false) ?_
       refine gP 28 73 (undef) ?_
       refine gP 29 74 (undef) ?_
       refine gP 30 75 (undef) ?_
       refine gP 31 76 (.bool false) ?_
       refine gP 32 77 (.bool false) ?_
       refine gP 33 78 (undef) ?_
       refine gP 34 79 (undef) ?_
       refine gP 35 80 (undef) ?_
       refine gP 36 81 (undef) ?_
       refine gP 37 82 (.bool false) ?_
       refine gP 38 83 (.bool false) ?_
       refine gP 39 84 (undef) ?_
       refine gP 40 85 (undef) ?_
       refine gP 41 86 (undef) ?_
       refine gP 42 87 (undef) ?_
       refine gP 43 88 (undef) ?_
       refine gP 44 89 (undef) ?_
       refine gP 45 90 (undef) ?_
       refine gP 46 91 (undef) ?_
       refine gP 47 92 (.bool false) ?_
       refine gP 48 93 (.bool false) ?_
       refine gP 49 94 (undef) ?_
       refine gP 50 95 (undef) ?_
       refine gP 51 96 (undef) ?_
       refine gP 52 97 (.bool false) ?_
       refine gP 53 98 (.bool false) ?_
       refine gP 54 99 (undef) ?_
       refine gP 55 100 (undef) ?_
       refine gP 56 101 (undef) ?_
       refine gP 57 102 (undef) ?_
       refine gP 58 103 (.bool false) ?_
       refine gP 59 0 (.bool false) ?_
       refine jD (by kernel_rfl) ?_
       have hI := hI.drop
       have hI := hI.drop
       have hI := hI.drop
       have hI := hI.drop
       have hI := hI.drop
       have e := someS h1
       subst e
       exact jT fun a ha => ⟨false, Z52, rfl, ha.keep [0] (by kernel_rfl), hI, hle53⟩
     ·
      rw [if_neg hb58] at h1
      have hb58 : y34 = false := by simpa using hb58
      refine GmT.keep [1, 2, 6, 8, 11, 12, 55] (S' := [(1, .slice (some ⟨b1, 0, none⟩) (([(ApiEvent.mk 7 0 q8e 3 0 q8z)] : List ApiEvent).length) 1), (2, pb b13), (6, pb b28), (8, .string y33), (11, .bool y43), (12, .slice A47 y46.length cp48), (55, .bool false)]) (by (try simp only [hb58]); kernel_rfl) ?_
      refine gP 11 56 (undef) ?_
      refine gP 12 57 (undef) ?_
      refine gP 13 58 (.bool false) ?_
      refine gP 14 59 (.bool false) ?_
      refine gP 15 60 (undef) ?_
      refine gP 16 61 (undef) ?_
      refine gP 17 62 (undef) ?_
      refine gP 18 63 (.bool false) ?_
      refine gP 19 64 (.bool false) ?_
      refine gP 20 65 (undef) ?_
      refine gP 21 66 (undef) ?_
      refine gP 22 67 (undef) ?_
      refine gP 23 68 (undef) ?_
      refine gP 24 69 (undef) ?_
      refine gP 25 70 (undef) ?_
      refine gP 26 71 (.bool false) ?_
      refine gP 27 72 (.bool false) ?_
      refine gP 28 73 (undef) ?_
      refine gP 29 74 (undef) ?_
      refine gP 30 75 (undef) ?_
      refine gP 31 76 (.bool false) ?_
      refine gP 32 77 (.bool false) ?_
      refine gP 33 78 (undef) ?_
      refine gP 34 79 (undef) ?_
      refine gP 35 80 (undef) ?_
      refine gP 36 81 (undef) ?_
      refine gP 37 82 (.bool false) ?_
      refine gP 38 83 (.bool false) ?_
      refine gP 39 84 (undef) ?_
      refine gP 40 85 (undef) ?_
      refine gP 41 86 (undef) ?_
      refine gP 42 87 (undef) ?_
      refine gP 43 88 (undef) ?_
      refine gP 44 89 (undef) ?_
      refine gP 45 90 (undef) ?_
      refine gP 46 91 (undef) ?_
      refine gP 47 92 (.bool false) ?_
      refine gP 48 93 (.bool false) ?_
      refine gP 49 94 (undef) ?_
      refine gP 50 95 (undef) ?_
      refine gP 51 96 (undef) ?_
      refine gP 52 97 (.bool false) ?_
      refine gP 53 98 (.bool false) ?_
      refine gP 54 99 (undef) ?_
      refine gP 55 100 (undef) ?_
      refine gP 56 101 (undef) ?_
      refine gP 57 102 (undef) ?_
      refine gP 58 103 (.bool false) ?_
      refine gP 59 0 (.bool false) ?_
      refine jD (by kernel_rfl) ?_
      have hI := hI.drop
      have hI := hI.drop
      have hI := hI.drop
      have hI := hI.drop
      have hI := hI.drop
      have e := someS h1
      subst e
      exact jT fun a ha => ⟨false, Z52, rfl, ha.keep [0] (by kernel_rfl), hI, hle53⟩
    ·
     rw [if_neg hb57] at h1
     have hb57 : y27 = false := by simpa using hb57
     refine GmT.keep [1, 2, 6, 8, 9, 11, 12, 52] (S' := [(1, .slice (some ⟨b1, 0, none⟩) (([(ApiEvent.mk 7 0 q8e 3 0 q8z)] : List ApiEvent).length) 1), (2, pb b13), (6, pb b28), (8, .string y33), (9, .bool y34), (11, .bool y43), (12, .slice A47 y46.length cp48), (52, .bool false)]) (by (try simp only [hb57]); kernel_rfl) ?_
     refine gP 8 53 (undef) ?_
     refine gP 9 54 (.bool false) ?_
     refine gP 10 55 (.bool false) ?_
     refine gP 11 56 (undef) ?_
     refine gP 12 57 (undef) ?_
     refine gP 13 58 (.bool false) ?_
     refine gP 14 59 (.bool false) ?_
     refine gP 15 60 (undef) ?_
     refine gP 16 61 (undef) ?_
     refine gP 17 62 (undef) ?_
     refine gP 18 63 (.bool false) ?_
     refine gP 19 64 (.bool false) ?_
     refine gP 20 65 (undef) ?_
     refine gP 21 66 (undef) ?_
     refine gP 22 67 (undef) ?_
     refine gP 23 68 (undef) ?_
     refine gP 24 69 (undef) ?_
     refine gP 25 70 (undef) ?_
     refine gP 26 71 (.bool false) ?_
     refine gP 27 72 (.bool false) ?_
     refine gP 28 73 (undef) ?_
     refine gP 29 74 (undef) ?_
     refine gP 30 75 (undef) ?_
     refine gP 31 76 (.bool false) ?_
     refine gP 32 77 (.bool false) ?_
     refine gP 33 78 (undef) ?_
     refine gP 34 79 (undef) ?_
     refine gP 35 80 (undef) ?_
     refine gP 36 81 (undef) ?_
     refine gP 37 82 (.bool false) ?_
     refine gP 38 83 (.bool false) ?_
     refine gP 39 84 (undef) ?_
     refine gP 40 85 (undef) ?_
     refine gP 41 86 (undef) ?_
     refine gP 42 87 (undef) ?_
     refine gP 43 88 (undef) ?_
     refine gP 44 89 (undef) ?_
     refine gP 45 90 (undef) ?_
     refine gP 46 91 (undef) ?_
     refine gP 47 92 (.bool false) ?_
     refine gP 48 93 (.bool false) ?_
     refine gP 49 94 (undef) ?_
     refine gP 50 95 (undef) ?_
     refine gP 51 96 (undef) ?_
     refine gP 52 97 (.bool false) ?_
     refine gP 53 98 (.bool false) ?_
     refine gP 54 99 (undef) ?_
     refine gP 55 100 (undef) ?_
     refine gP 56 101 (undef) ?_
     refine gP 57 102 (undef) ?_
     refine gP 58 103 (.bool false) ?_
     refine gP 59 0 (.bool false) ?_
     refine jD (by kernel_rfl) ?_
     have hI := hI.drop
     have hI := hI.drop
     have hI := hI.drop
     have hI := hI.drop
     have hI := hI.drop
     have e := someS h1
     subst e
     exact jT fun a ha => ⟨false, Z52, rfl, ha.keep [0] (by kernel_rfl), hI, hle53⟩
   ·
    rw [if_neg hb56] at h1
    have hb56 : y19 = false := by simpa using hb56
    refine GmT.keep [1, 2, 6, 7, 8, 9, 11, 12, 49] (S' := [(1, .slice (some ⟨b1, 0, none⟩) (([(ApiEvent.mk 7 0 q8e 3 0 q8z)] : List ApiEvent).length) 1), (2, pb b13), (6, pb b28), (7, .bool y27), (8, .string y33), (9, .bool y34), (11, .bool y43), (12, .slice A47 y46.length cp48), (49, .bool false)]) (by (try simp only [hb56]); kernel_rfl) ?_
    refine gP 5 50 (undef) ?_
    refine gP 6 51 (.bool false) ?_
    refine gP 7 52 (.bool false) ?_
    refine gP 8 53 (undef) ?_
    refine gP 9 54 (.bool false) ?_
    refine gP 10 55 (.bool false) ?_
    refine gP 11 56 (undef) ?_
    refine gP 12 57 (undef) ?_
    refine gP 13 58 (.bool false) ?_
    refine gP 14 59 (.bool false) ?_
    refine gP 15 60 (undef) ?_
    refine gP 16 61 (undef) ?_
    refine gP 17 62 (undef) ?_
    refine gP 18 63 (.bool false) ?_
    refine gP 19 64 (.bool false) ?_
    refine gP 20 65 (undef) ?_
    refine gP 21 66 (undef) ?_
    refine gP 22 67 (undef) ?_
    refine gP 23 68 (undef) ?_
    refine gP 24 69 (undef) ?_
    refine gP 25 70 (undef) ?_
    refine gP 26 71 (.bool false) ?_
    refine gP 27 72 (.bool false) ?_
    refine gP 28 73 (undef) ?_
    refine gP 29 74 (undef) ?_
    refine gP 30 75 (undef) ?_
    refine gP 31 76 (.bool false) ?_
    refine gP 32 77 (.bool false) ?_
    refine gP 33 78 (undef) ?_
    refine gP 34 79 (undef) ?_
    refine gP 35 80 (undef) ?_
    refine gP 36 81 (undef) ?_
    refine gP 37 82 (.bool false) ?_
    refine gP 38 83 (.bool false) ?_
    refine gP 39 84 (undef) ?_
    refine gP 40 85 (undef) ?_
    refine gP 41 86 (undef) ?_
    refine gP 42 87 (undef) ?_
    refine gP 43 88 (undef) ?_
    refine gP 44 89 (undef) ?_
    refine gP 45 90 (undef) ?_
    refine gP 46 91 (undef) ?_
    refine gP 47 92 (.bool false) ?_
    refine gP 48 93 (.bool false) ?_
    refine gP 49 94 (undef) ?_
    refine gP 50 95 (undef) ?_
    refine gP 51 96 (undef) ?_
    refine gP 52 97 (.bool false) ?_
    refine gP 53 98 (.bool false) ?_
    refine gP 54 99 (undef) ?_
    refine gP 55 100 (undef) ?_
    refine gP 56 101 (undef) ?_
    refine gP 57 102 (undef) ?_
    refine gP 58 103 (.bool false) ?_
    refine gP 59 0 (.bool false) ?_
    refine jD (by kernel_rfl) ?_
    have hI := hI.drop
    have hI := hI.drop
    have hI := hI.drop
    have hI := hI.drop
    have hI := hI.drop
    have e := someS h1
    subst e
    exact jT fun a ha => ⟨false, Z52, rfl, ha.keep [0] (by kernel_rfl), hI, hle53⟩
  ·
   rw [if_neg hb55] at h1
   have hb55 : y12 = false := by simpa using hb55
   refine GmT.keep [1, 2, 5, 6, 7, 8, 9, 11, 12, 46] (S' := [(1, .slice (some ⟨b1, 0, none⟩) (([(ApiEvent.mk 7 0 q8e 3 0 q8z)] : List ApiEvent).length) 1), (2, pb b13), (5, .bool y19), (6, pb b28), (7, .bool y27), (8, .string y33), (9, .bool y34), (11, .bool y43), (12, .slice A47 y46.length cp48), (46, .bool false)]) (by (try simp only [hb55]); kernel_rfl) ?_
   refine gP 2 47 (undef) ?_
   refine gP 3 48 (.bool false) ?_
   refine gP 4 49 (.bool false) ?_
   refine gP 5 50 (undef) ?_
   refine gP 6 51 (.bool false) ?_
   refine gP 7 52 (.bool false) ?_
   refine gP 8 53 (undef) ?_
   refine gP 9 54 (.bool false) ?_
   refine gP 10 55 (.bool false) ?_
   refine gP 11 56 (undef) ?_
   refine gP 12 57 (undef) ?_
   refine gP 13 58 (.bool false) ?_
   refine gP 14 59 (.bool false) ?_
   refine gP 15 60 (undef) ?_
   refine gP 16 61 (undef) ?_
   refine gP 17 62 (undef) ?_
   refine gP 18 63 (.bool false) ?_
   refine gP 19 64 (.bool false) ?_
   refine gP 20 65 (undef) ?_
   refine gP 21 66 (undef) ?_
   refine gP 22 67 (undef) ?_
   refine gP 23 68 (undef) ?_
   refine gP 24 69 (undef) ?_
   refine gP 25 70 (undef) ?_
   refine gP 26 71 (.bool false) ?_
   refine gP 27 72 (.bool false) ?_
   refine gP 28 73 (undef) ?_
   refine gP 29 74 (undef) ?_
   refine gP 30 75 (undef) ?_
   refine gP 31 76 (.bool false) ?_
   refine gP 32 77 (.bool false) ?_
   refine gP 33 78 (undef) ?_
   refine gP 34 79 (undef) ?_
   refine gP 35 80 (undef) ?_
   refine gP 36 81 (undef) ?_
   refine gP 37 82 (.bool false) ?_
   refine gP 38 83 (.bool false) ?_
   refine gP 39 84 (undef) ?_
   refine gP 40 85 (undef) ?_
   refine gP 41 86 (undef) ?_
   refine gP 42 87 (undef) ?_
   refine gP 43 88 (undef) ?_
   refine gP 44 89 (undef) ?_
   refine gP 45 90 (undef) ?_
   refine gP 46 91 (undef) ?_
   refine gP 47 92 (.bool false) ?_
   refine gP 48 93 (.bool false) ?_
   refine gP 49 94 (undef) ?_
   refine gP 50 95 (undef) ?_
   refine gP 51 96 (undef) ?_
   refine gP 52 97 (.bool false) ?_
   refine gP 53 98 (.bool false) ?_
   refine gP 54 99 (undef) ?_
   refine gP 55 100 (undef) ?_
   refine gP 56 101 (undef) ?_
   refine gP 57 102 (undef) ?_
   refine gP 58 103 (.bool false) ?_
   refine gP 59 0 (.bool false) ?_
   refine jD (by kernel_rfl) ?_
   have hI := hI.drop
   have hI := hI.drop
   have hI := hI.drop
   have hI := hI.drop
   have hI := hI.drop
   have e := someS h1
   subst e
   exact jT fun a ha => ⟨false, Z52, rfl, ha.keep [0] (by kernel_rfl), hI, hle53⟩
 ·
  rintro a w ⟨x51, Z49, rfl, ha, hI, hle50⟩
  try dsimp only at h0
  refine CodT.of ?_ ha
  refine jE ?_
  have e := someS h0
  subst e
  refine qK [0] (S' := [(0, .bool x51)]) ?_
  exact post_ret (v := .bool x51) (fun a ha => jU (vs := [.bool x51]) (.tmp (t := 0) (by kernel_rfl) .nil) ha (by kernel_rfl)) ⟨rfl, hI.weaken (Hp.le_trans (Hp.le_trans hle3 hle15) hle50)⟩
/-- cenotaph/cenotaphlaw06.Few -/
theorem c7 (w0 w : World) (Z : Hp) (A : HP) (hI : Inv w0 Z w A) (hT : Tabs Z) (A_a0 : Option Addr) (c_a0 : Nat) (a0 : (List ApiEvent)) (hr_a0 : RdS Z c_ApiEvent 37 A_a0 c_a0 a0) (r : Bool) (h0 : law06_Few a0 = some r) :
  Calls prog 7 #[.slice A_a0 a0.length c_a0] w (fun e w' => e = .returned (.bool r) ∧ Inv w0 Z w' A) := by
 have e4 := calls_intro (R := (fun e w' => e = .returned (.bool r) ∧ Inv w0 Z w' A)) (w := w) (args := [.slice A_a0 a0.length c_a0]) (fn := Go.Proofs.Tryz.f7) 24 Go.Proofs.Tryz.func7 (by rfl) Go.Proofs.Tryz.ntmps7 (by kernel_rfl)
 refine e4 ?_
 clear e4
 unfold law06_Few at h0
 refine cQ (cR [0] ?_)
 refine oP (r := []) [0] (S' := [(0, .slice A_a0 a0.length c_a0)]) ?_
 refine oD (qT (cQ (cQ (cR [0] ?_))))
 refine oP (r := []) [0] (S' := [(0, .slice A_a0 a0.length c_a0), (3, iv 0)]) ?_
 refine oD (qT ?_)
 obtain ⟨r1, h1, h0⟩ := bindS h0
 refine CodT.meet1 (fun a w => .inr () = r1 ∧ Fr 24 [(0, .slice A_a0 a0.length c_a0)] a ∧ Inv w0 Z w A) ?_ ?_
 ·
  refine jB ?_
  refine (fun a ha => wp_loopN (fun k a w => ∃ (x1 : Int), law06_Few.l0 a0 k x1 = some r1 ∧ Fr 24 [(0, .slice A_a0 a0.length c_a0), (3, iv x1)] a ∧ Inv w0 Z w A) ?_ FU a w ⟨0, h1, ha.keep [0, 3] (by kernel_rfl), hI⟩)
  clear h1 hI
  rintro k a w ⟨x1, h1, ha, hI⟩
  rcases k with _ | k
  ·
   cases h1
  simp only [law06_Few.l0] at h1
  refine CodT.of ?_ ha
  refine cQ ?_
  obtain ⟨r2, h2, h1⟩ := bindS h1
  refine jM (fun a w => ∃ (x2 : Bool), x2 = r2 ∧ Fr 24 [(0, .slice A_a0 a0.length c_a0), (3, iv x1), (11, .bool x2)] a ∧ Inv w0 Z w A) ?_ ?_
  ·
   refine cR [0, 1, 2, 3, 4, 5, 6, 7] ?_
   refine oP (r := [5, 6, 7]) [0, 1, 2, 3, 4] (S' := [(0, .slice A_a0 a0.length c_a0), (3, iv x1), (8, .bool (decide (x1 < (a0.length : Int))))]) ?_
   by_cases hb3 : (decide (x1 < (a0.length : Int))) = true
   ·
    rw [if_pos hb3] at h2
    refine OpsT.keep [0, 3, 8] (S' := [(0, .slice A_a0 a0.length c_a0), (3, iv x1), (8, .bool true)]) (by (try simp only [hb3]); kernel_rfl) ?_
    refine oP (r := []) [5, 6, 7] (S' := [(0, .slice A_a0 a0.length c_a0), (3, iv x1), (11, .bool (decide (x1 ≤ 20)))]) ?_
    refine oD ?_
    have e := someS h2
    subst e
    exact jT fun a ha => ⟨decide (x1 ≤ 20), rfl, ha.keep [0, 3, 11] (by kernel_rfl), hI⟩
   ·
    rw [if_neg hb3] at h2
    have hb3 : (decide (x1 < (a0.length : Int))) = false := by simpa using hb3
    refine OpsT.keep [0, 3, 8] (S' := [(0, .slice A_a0 a0.length c_a0), (3, iv x1), (8, .bool false)]) (by (try simp only [hb3]); kernel_rfl) ?_
    refine oP (r := []) [5, 6, 7] (S' := [(0, .slice A_a0 a0.length c_a0), (3, iv x1), (11, .bool false)]) ?_
    refine oD ?_
    have e := someS h2
    subst e
    exact jT fun a ha => ⟨false, rfl, ha.keep [0, 3, 11] (by kernel_rfl), hI⟩
  ·
   rintro a w ⟨x2, rfl, ha, hI⟩
   try dsimp only at h1
   refine CodT.of ?_ ha
   by_cases hb4 : x2 = true
   ·
    rw [if_pos hb4] at h1
    refine cY (b := x2) hb4 ?_
    refine jS (qT (cQ (jB (cQ (cR [0, 1, 2, 3, 4, 5, 6] ?_)))))
    refine oP (r := [2, 3, 4, 5, 6]) [0, 1] (S' := [(0, .slice A_a0 a0.length c_a0), (3, iv x1), (14, .slice A_a0 a0.length c_a0), (15, iv x1)]) ?_
    obtain ⟨hg5, h1⟩ := guardS h1
    obtain ⟨g6, o10, hA7, hr8, hl9⟩ := RdS.get hr_a0 hg5.1 hg5.2
    refine oC (jY (Yl.indexSlice (d := 16) (T := 24) (cc := c_a0) (k := .i64) (j := x1) (g := g6) (o := o10) (by kernel_rfl) Go.Proofs.Tryz.underlying24 ty50 hA7 hg5.1 hg5.2) hI ?_)
    refine oP (r := [4, 5, 6]) [3] (S' := [(0, .slice A_a0 a0.length c_a0), (3, iv x1), (17, .pointer (some ⟨g6, o10 + x1.toNat * 37 + 2, none⟩))]) ?_
    refine oC (jY (jL (d := 18) (T := 9) (v := .string ((gt a0 x1).Name)) (by kernel_rfl) (ldR ty9 (v := .string ((gt a0 x1).Name)) 2 (fun w hC => hr8 w0 w _ hC) (by kernel_rfl))) hI ?_)
    refine oP (r := []) [5, 6] (S' := [(0, .slice A_a0 a0.length c_a0), (3, iv x1), (20, .bool (decide ((((gt a0 x1).Name).size : Int) > 100)))]) ?_
    refine oD (qT ?_)
    by_cases hb11 : (decide ((((gt a0 x1).Name).size : Int) > 100)) = true
    ·
     rw [if_pos hb11] at h1
     refine cY (b := decide ((((gt a0 x1).Name).size : Int) > 100)) hb11 ?_
     refine cQ (cR [0] ?_)
     refine oP (r := []) [0] (S' := [(2, .bool false)]) ?_
     refine oD (qT (jE (jQ (jR (jR (jQ (jR (jR ?_))))))))
     have e := someS h1
     subst e
     try dsimp only at h0
     have e := someS h0
     subst e
     refine qK [2] (S' := [(2, .bool false)]) ?_
     exact post_ret (v := .bool false) (fun a ha => jU (vs := [.bool false]) (.tmp (t := 2) (by kernel_rfl) .nil) ha (by kernel_rfl)) ⟨rfl, hI⟩
    ·
     rw [if_neg hb11] at h1
     refine cN (b := decide ((((gt a0 x1).Name).size : Int) > 100)) (by simpa using hb11) ?_
     refine jS (jN (qT (cR [0, 1, 2] ?_)))
     refine oP (r := []) [0, 1, 2] (S' := [(0, .slice A_a0 a0.length c_a0), (3, iv (wi64 (x1 + 1)))]) ?_
     refine oD ?_
     exact jT fun a ha => ⟨k, Nat.lt_succ_self k, wi64 (x1 + 1), h1, ha.keep [0, 3] (by kernel_rfl), hI⟩
   ·
    rw [if_neg hb4] at h1
    refine cN (b := x2) (by simpa using hb4) ?_
    refine jZ ?_
    refine jX (jX ?_)
    refine Qn.block ?_
    have e := someS h1
    subst e
    exact jT fun a ha => ⟨rfl, ha.keep [0] (by kernel_rfl), hI⟩
 ·
  rintro a w ⟨rfl, ha, hI⟩
  try dsimp only at h0
  refine Qn.of ?_ ha
  refine qT (cQ (cR [0, 1, 2, 3] ?_))
  refine oP (r := []) [0, 1, 2, 3] (S' := [(2, .bool (decide ((a0.length : Int) ≤ 20)))]) ?_
  refine oD (qT (jE ?_))
  have e := someS h0
  subst e
  refine qK [2] (S' := [(2, .bool (decide ((a0.length : Int) ≤ 20)))]) ?_
  exact post_ret (v := .bool (decide ((a0.length : Int) ≤ 20))) (fun a ha => jU (vs := [.bool (decide ((a0.length : Int) ≤ 20))]) (.tmp (t := 2) (by kernel_rfl) .nil) ha (by kernel_rfl)) ⟨rfl, hI⟩
/-- cenotaph/cenotaphlaw11.Of -/
theorem c10 (w0 w : World) (Z : Hp) (A : HP) (hI : Inv w0 Z w A) (hT : Tabs Z) (ud : Int) (ue : (List Int)) (uba : ue.length = 32) (ua : Option Addr) (ui : Nat) (uc : (List ApiEvent)) (ubc : RdS Z c_ApiEvent 37 ua ui uc) (r : (Int × (List Int) × (List ApiEvent))) (h0 : law11_Of ud ue uc = some r) :
  Calls prog 10 #[.agg ((([iv ud] : LV) ++ (q8c ue) ++ ([.slice ua uc.length ui] : LV))).toArray] w (fun e w' => ∃ (A1 : Option Addr) (c1 : Nat) (Z' : Hp), Z.le Z' ∧ e = .returned (.agg ((([iv r.1] : LV) ++ (q8c r.2.1) ++ ([.slice A1 r.2.2.length c1] : LV))).toArray) ∧ r.2.1.length = 32 ∧ RdS Z' c_ApiEvent 37 A1 c1 r.2.2 ∧ Inv w0 Z' w' A) := by
 have e4 := calls_intro (R := (fun e w' => ∃ (A1 : Option Addr) (c1 : Nat) (Z' : Hp), Z.le Z' ∧ e = .returned (.agg ((([iv r.1] : LV) ++ (q8c r.2.1) ++ ([.slice A1 r.2.2.length c1] : LV))).toArray) ∧ r.2.1.length = 32 ∧ RdS Z' c_ApiEvent 37 A1 c1 r.2.2 ∧ Inv w0 Z' w' A)) (w := w) (args := [.agg ((([iv ud] : LV) ++ (q8c ue) ++ ([.slice ua uc.length ui] : LV))).toArray]) (fn := Go.Proofs.Tryz.f10) 10 Go.Proofs.Tryz.func10 (by rfl) Go.Proofs.Tryz.ntmps10 (by kernel_rfl)
 refine e4 ?_
 clear e4
 unfold law11_Of at h0
 refine cQ (cR [0, 1] ?_)
 refine oC (Does.boxL (d := 1) (T := 26) (v := .agg ((([iv ud] : LV) ++ (q8c ue) ++ ([.slice ua uc.length ui] : LV))).toArray) ((([iv ud] : LV) ++ (q8c ue) ++ ([.slice ua uc.length ui] : LV))) (by kernel_rfl) hI (by kernel_rfl) ?_)
 intro b1 w hI
 refine oC (jA (d := 2) (T := 32) q8b (by kernel_rfl) ty32 hI (by kernel_rfl) ?_)
 intro b2 w hI
 refine oD (qT (cQ (cR [0, 1, 2, 3, 4, 5, 6, 7] ?_)))
 refine oP (r := [1, 2, 3, 4, 5, 6, 7]) [0] (S' := [(1, pb b1), (2, pb b2), (3, pb b1)]) ?_
 refine oC (jY (jL (d := 4) (T := 3) (v := iv ud) (by kernel_rfl) (ldB ty3 (l := (([iv ud] : LV) ++ (q8c ue) ++ ([.slice ua uc.length ui] : LV))) (o := 0) (v := iv ud) (pick2 _ _ _) (by kernel_rfl))) hI ?_)
 refine oP (r := [3, 4, 5, 6, 7]) [2] (S' := [(1, pb b1), (2, pb b2), (4, iv ud), (5, .pointer (some ⟨b1, 1, none⟩))]) ?_
 refine oC (jY (jL (d := 6) (T := 23) (v := .agg (q8c ue).toArray) (by kernel_rfl) (ldBN ty23 (l := (([iv ud] : LV) ++ (q8c ue) ++ ([.slice ua uc.length ui] : LV))) (o := 1) (cs := cA (Value.int .u8) ue) (pick2 _ _ _) ((cA_length _ _).trans uba) (seg_take [([iv ud] : LV), cA (Value.int .u8) ue, ([.slice ua uc.length ui] : LV)] 1 1 (by simp [cA_length, uba]) (by simp [cA_length, uba]) (by simp [cA_length, uba]) (by simp [cA_length, uba])))) hI ?_)
 refine oP (r := [5, 6, 7]) [4] (S' := [(2, pb b2), (4, iv ud), (6, .agg (q8c ue).toArray), (7, .pointer (some ⟨b1, 33, none⟩))]) ?_
 refine oC (jY (jL (d := 8) (T := 24) (v := .slice ua uc.length ui) (by kernel_rfl) (ldB ty24 (l := (([iv ud] : LV) ++ (q8c ue) ++ ([.slice ua uc.length ui] : LV))) (o := 33) (v := .slice ua uc.length ui) (pick2 _ _ _) (seg_get [([iv ud] : LV), cA (Value.int .u8) ue, ([.slice ua uc.length ui] : LV)] 2 (by simp [cA_length, uba]) (by simp [cA_length, uba]) rfl))) hI ?_)
 refine oC (jY (Yl.buildB (d := 9) (T := 32) (ps := [(0, iv ud), (1, .agg (q8c ue).toArray), (2, .slice ua uc.length ui)]) (cells := ((([iv ud] : LV) ++ (q8c ue) ++ ([.slice ua uc.length ui] : LV))).toArray) (by kernel_rfl) ((built_all (places := [(0, 1), (1, 32), (33, 1)]) (lens := [1, 32, 1]) (zs := [([iv 0] : LV), cA (Value.int .u8) q8z, ([.slice none 0 0] : LV)]) (fun _ => by kernel_rfl) (by kernel_rfl) [(0, iv ud, ([iv ud] : LV)), (1, .agg (q8c ue).toArray, cA (Value.int .u8) ue), (2, .slice ua uc.length ui, ([.slice ua uc.length ui] : LV))] (List.forall_mem_cons.2 ⟨⟨rfl, rfl, rfl⟩, (List.forall_mem_cons.2 ⟨⟨rfl, congrArg some ((cA_length _ _).trans uba).symm, congrArg (fun n => some (1, n)) ((cA_length _ _).trans uba).symm⟩, (List.forall_mem_cons.2 ⟨⟨rfl, rfl, rfl⟩, (fun _ h => by cases h)⟩)⟩)⟩)).trans (by first | rfl | simp))) hI ?_)
 refine oC (dS (T := 32) (b := b2) (o := 0) (v := .agg ((([iv ud] : LV) ++ (q8c ue) ++ ([.slice ua uc.length ui] : LV))).toArray) (l := q8b) (vs := (([iv ud] : LV) ++ (q8c ue) ++ ([.slice ua uc.length ui] : LV))) (L' := (([iv ud] : LV) ++ (q8c ue) ++ ([.slice ua uc.length ui] : LV))) (by kernel_rfl) ty32 hI (by kernel_rfl) (by simp [cA_length, uba]) (by rw [show List.length _ = 34 from (by simp [cA_length])]; kernel_rfl) (ones_app _ _ (ones_app _ _ (by kernel_rfl) (ones_cA _)) (by kernel_rfl)) (lset_all _ _ (Eq.trans (show List.length _ = 34 from (by simp [cA_length, uba])) (Eq.symm (show List.length _ = 34 from (by simp [cA_length]))))) ?_)
 intro w hI
 refine oD (qT (jE ?_))
 have hL3 := (ldBN ty32 (l := (([iv ud] : LV) ++ (q8c ue) ++ ([.slice ua uc.length ui] : LV))) (o := 0) (cs := (([iv ud] : LV) ++ (q8c ue) ++ ([.slice ua uc.length ui] : LV))) (ent_refl _) (by simp [cA_length, uba]) (whole _ _ (by simp [cA_length, uba]))) w hI
 have hI := hI.drop
 have hI := hI.drop
 have e := someS h0
 subst e
 refine qK [2] (S' := [(2, pb b2)]) ?_
 exact post_ret (v := .agg ((([iv ud] : LV) ++ (q8c ue) ++ ([.slice ua uc.length ui] : LV))).toArray) (fun a ha => jU (vs := [.agg ((([iv ud] : LV) ++ (q8c ue) ++ ([.slice ua uc.length ui] : LV))).toArray]) (.cell (t := 2) (T := 32) (ad := ⟨b2, 0, none⟩) (by kernel_rfl) hL3 .nil) ha (by kernel_rfl)) ⟨ua, ui, Z, Hp.le_refl _, rfl, uba, ubc, hI⟩
/-- cenotaph/cenotaphref04.Num -/
theorem c27 (w0 w : World) (Z : Hp) (A : HP) (hI : Inv w0 Z w A) (hT : Tabs Z) (a0 : Int) (r : ByteArray) (h0 : ref04_Num a0 = some r) :
  Calls prog 27 #[iv a0] w (fun e w' => e = .returned (.string r) ∧ Inv w0 Z w' A) := by
 have e4 := calls_intro (R := (fun e w' => e = .returned (.string r) ∧ Inv w0 Z w' A)) (w := w) (args := [iv a0]) (fn := Go.Proofs.Tryz.f27) 24 Go.Proofs.Tryz.func27 (by rfl) Go.Proofs.Tryz.ntmps27 (by kernel_rfl)
 refine e4 ?_
 clear e4
 unfold ref04_Num at h0
 refine cQ (cR [0] ?_)
 refine oP (r := []) [0] (S' := [(0, iv a0)]) ?_
 refine oD (qT (cQ (cR [0, 1, 2, 3] ?_)))
 refine oP (r := []) [0, 1, 2, 3] (S' := [(0, iv (if 1125899906842624 < (if 0 > a0 then 0 else a0) then 1125899906842624 else if 0 > a0 then 0 else a0))]) ?_
 refine oD (qT (cQ (cR [0] ?_)))
 refine oP (r := []) [0] (S' := [(0, iv (if 1125899906842624 < (if 0 > a0 then 0 else a0) then 1125899906842624 else if 0 > a0 then 0 else a0)), (3, .slice none 0 0)]) ?_
 refine oD (qT (cQ ?_))
 obtain ⟨r1, h1, h0⟩ := bindS h0
 refine CodT.meet1 (fun a w => ∃ (x1 : Int) (x2 : (List Int)) (A3 : Option Addr) (cp4 : Nat), (x1, x2) = r1 ∧ Fr 24 [(0, iv x1), (3, .slice A3 x2.length cp4)] a ∧ Inv w0 Z w (star (ownS 5 (cI .u8) 1 A3 cp4 x2) A)) ?_ ?_
 ·
  refine jB ?_
  have hI := ownS_nil (α := Int) hI 5 (cI .u8) 1
  refine (fun a ha => wp_loopN (fun k a w => ∃ (x5 : Int) (x6 : (List Int)) (A7 : Option Addr) (cp8 : Nat), ref04_Num.l0 k x5 x6 = some r1 ∧ Fr 24 [(0, iv x5), (3, .slice A7 x6.length cp8)] a ∧ Inv w0 Z w (star (ownS 5 (cI .u8) 1 A7 cp8 x6) A)) ?_ FU a w ⟨if 1125899906842624 < (if 0 > a0 then 0 else a0) then 1125899906842624 else if 0 > a0 then 0 else a0, ([] : List Int), none, 0, h1, ha.keep [0, 3] (by kernel_rfl), hI⟩)
  clear h1 hI
  rintro k a w ⟨x5, x6, A7, cp8, h1, ha, hI⟩
  rcases k with _ | k
  ·
   cases h1
  simp only [ref04_Num.l0] at h1
  refine CodT.of ?_ ha
  refine cQ (cQ (cR [0, 1] ?_))
  refine oP (r := []) [0, 1] (S' := [(0, iv x5), (3, .slice A7 x6.length cp8), (8, .bool (decide (x5 ≥ 128)))]) ?_
  refine oD (qT ?_)
  by_cases hb9 : (decide (x5 ≥ 128)) = true
  ·
   rw [if_pos hb9] at h1
   refine cY (b := decide (x5 ≥ 128)) hb9 ?_
   refine jS (qT (jB (cQ (cR [0, 1, 2, 3, 4, 5, 6, 7] ?_))))
   refine oP (r := [5, 6, 7]) [0, 1, 2, 3, 4] (S' := [(0, iv x5), (9, .slice A7 x6.length cp8), (13, .int .u8 (wu8 (wi64 ((x5.tmod 128) + 128))))]) ?_
   refine oC (Does.buildSlice (en := (cI .u8)) (d := 14) (n := 1) (T := 52) (ps := [(0, .int .u8 (wu8 (wi64 ((x5.tmod 128) + 128))))]) ([wu8 (wi64 ((x5.tmod 128) + 128))] : List Int) (by kernel_rfl) Go.Proofs.Tryz.underlying52 ty5 (by kernel_rfl) (by kernel_rfl) (by kernel_rfl) (by kernel_rfl) (len_all (fun _ => rfl)) hI ?_)
   intro b10 w hI
   obtain ⟨hg11, h1⟩ := guardS h1
   have hI := hI.mono (pick2 _ _ _)
   refine oC (Does.append (d := 15) (t := 52) (tx := 52) (ty := 52) (ys := x6) (zs := ([wu8 (wi64 ((x5.tmod 128) + 128))] : List Int)) (x := .slice (some ⟨b10, 0, none⟩) (([wu8 (wi64 ((x5.tmod 128) + 128))] : List Int).length) 1) (by kernel_rfl) Go.Proofs.Tryz.underlying52 ty5 (by kernel_rfl) hI (src_own Go.Proofs.Tryz.underlying52 (hI.mono (pick2 _ _ _)) (one_flat _ (fun _ => rfl))) (ownS_facts (hI.mono (pick2 _ _ _))).2.2 (by unfold LIM at hg11; omega) hg11 ?_)
   intro A12 cp13 w hI
   refine oP (r := []) [7] (S' := [(0, iv x5), (3, .slice A12 ((x6 ++ ([wu8 (wi64 ((x5.tmod 128) + 128))] : List Int)).length) cp13)]) ?_
   refine oD (qT (cR [0, 1, 2] ?_))
   refine oP (r := []) [0, 1, 2] (S' := [(0, iv (wi64 (x5.tdiv 128))), (3, .slice A12 ((x6 ++ ([wu8 (wi64 ((x5.tmod 128) + 128))] : List Int)).length) cp13)]) ?_
   refine oD (jN ?_)
   have hI := hI.mono (pick2 _ _ _)
   have hI := hI.drop
   exact jT fun a ha => ⟨k, Nat.lt_succ_self k, wi64 (x5.tdiv 128), x6 ++ ([wu8 (wi64 ((x5.tmod 128) + 128))] : List Int), A12, cp13, h1, ha.keep [0, 3] (by kernel_rfl), hI⟩
  ·
   rw [if_neg hb9] at h1
   refine cN (b := decide (x5 ≥ 128)) (by simpa using hb9) ?_
   refine jZ ?_
   refine jX (jX ?_)
   refine Qn.block ?_
   have e := someS h1
   subst e
   exact jT fun a ha => ⟨x5, x6, A7, cp8, rfl, ha.keep [0, 3] (by kernel_rfl), hI⟩
 ·
  rintro a w ⟨x1, x2, A3, cp4, rfl, ha, hI⟩
  try dsimp only at h0
  refine Qn.of ?_ ha
  refine qT (cQ (cR [0, 1, 2, 3, 4, 5, 6] ?_))
  refine oP (r := [3, 4, 5, 6]) [0, 1, 2] (S' := [(18, .slice A3 x2.length cp4), (20, .int .u8 (wu8 x1))]) ?_
  refine oC (Does.buildSlice (en := (cI .u8)) (d := 21) (n := 1) (T := 52) (ps := [(0, .int .u8 (wu8 x1))]) ([wu8 x1] : List Int) (by kernel_rfl) Go.Proofs.Tryz.underlying52 ty5 (by kernel_rfl) (by kernel_rfl) (by kernel_rfl) (by kernel_rfl) (len_all (fun _ => rfl)) hI ?_)
  intro b14 w hI
  obtain ⟨hg15, h0⟩ := guardS h0
  have hI := hI.mono (pick2 _ _ _)
  refine oC (Does.append (d := 22) (t := 52) (tx := 52) (ty := 52) (ys := x2) (zs := ([wu8 x1] : List Int)) (x := .slice (some ⟨b14, 0, none⟩) (([wu8 x1] : List Int).length) 1) (by kernel_rfl) Go.Proofs.Tryz.underlying52 ty5 (by kernel_rfl) hI (src_own Go.Proofs.Tryz.underlying52 (hI.mono (pick2 _ _ _)) (one_flat _ (fun _ => rfl))) (ownS_facts (hI.mono (pick2 _ _ _))).2.2 (by unfold LIM at hg15; omega) hg15 ?_)
  intro A16 cp17 w hI
  refine oC (Does.b2sOwn (d := 23) (src := 52) (dst := 9) (xs := x2 ++ ([wu8 x1] : List Int)) (by kernel_rfl) Go.Proofs.Tryz.underlying52 Go.Proofs.Tryz.underlying5 Go.Proofs.Tryz.underlying9 hI ?_)
  refine oP (r := []) [6] (S' := [(2, .string (strOfNums (x2 ++ ([wu8 x1] : List Int))))]) ?_
  refine oD (qT (jE ?_))
  have hI := hI.drop
  have hI := hI.drop
  have e := someS h0
  subst e
  refine qK [2] (S' := [(2, .string (strOfNums (x2 ++ ([wu8 x1] : List Int))))]) ?_
  exact post_ret (v := .string (strOfNums (x2 ++ ([wu8 x1] : List Int)))) (fun a ha => jU (vs := [.string (strOfNums (x2 ++ ([wu8 x1] : List Int)))]) (.tmp (t := 2) (by kernel_rfl) .nil) ha (by kernel_rfl)) ⟨rfl, hI⟩
/-- cenotaph/cenotaphref02.Bytes -/
theorem c53 (w0 w : World) (Z : Hp) (A : HP) (hI : Inv w0 Z w A) (hT : Tabs Z) (a0 : (List Int)) (hl_a0 : a0.length = 32) (r : ByteArray) (h0 : ref02_Bytes a0 = some r) :
  Calls prog 53 #[.agg (q8c a0).toArray] w (fun e w' => e = .returned (.string r) ∧ Inv w0 Z w' A) := by
 have e4 := calls_intro (R := (fun e w' => e = .returned (.string r) ∧ Inv w0 Z w' A)) (w := w) (args := [.agg (q8c a0).toArray]) (fn := Go.Proofs.Tryz.f53) 17 Go.Proofs.Tryz.func53 (by rfl) Go.Proofs.Tryz.ntmps53 (by kernel_rfl)
 refine e4 ?_
 clear e4
 unfold ref02_Bytes at h0
 refine cQ (cR [0, 1] ?_)
 refine oC (Does.boxL (d := 1) (T := 23) (v := .agg (q8c a0).toArray) (q8c a0) (by kernel_rfl) hI (by kernel_rfl) ?_)
 intro b1 w hI
 refine oP (r := []) [1] (S' := [(1, pb b1)]) ?_
 refine oD (qT (cQ (cR [0] ?_)))
 refine oP (r := []) [0] (S' := [(1, pb b1), (3, .slice none 0 0)]) ?_
 refine oD (qT (cQ (cQ (cR [0] ?_))))
 refine oP (r := []) [0] (S' := [(1, pb b1), (3, .slice none 0 0), (4, iv 0)]) ?_
 refine oD (qT ?_)
 obtain ⟨r1, h1, h0⟩ := bindS h0
 refine CodT.meet1 (fun a w => ∃ (x2 : (List Int)) (A3 : Option Addr) (cp4 : Nat), x2 = r1 ∧ Fr 17 [(3, .slice A3 x2.length cp4)] a ∧ Inv w0 Z w (star (ownS 5 (cI .u8) 1 A3 cp4 x2) A)) ?_ ?_
 ·
  refine jB ?_
  have hI := ownS_nil (α := Int) hI 5 (cI .u8) 1
  refine (fun a ha => wp_loopN (fun k a w => ∃ (x5 : (List Int)) (x8 : Int) (A6 : Option Addr) (cp7 : Nat), ref02_Bytes.l0 a0 k x5 x8 = some r1 ∧ Fr 17 [(1, pb b1), (3, .slice A6 x5.length cp7), (4, iv x8)] a ∧ Inv w0 Z w (star (ownS 5 (cI .u8) 1 A6 cp7 x5) (star (pt b1 (.cells (q8c a0).toArray 23 (0, 0))) A))) ?_ FU a w ⟨([] : List Int), 0, none, 0, h1, ha.keep [1, 3, 4] (by kernel_rfl), hI⟩)
  clear h1 hI
  rintro k a w ⟨x5, x8, A6, cp7, h1, ha, hI⟩
  rcases k with _ | k
  ·
   cases h1
  simp only [ref02_Bytes.l0] at h1
  refine CodT.of ?_ ha
  refine cQ (cQ (cR [0, 1] ?_))
  refine oP (r := []) [0, 1] (S' := [(1, pb b1), (3, .slice A6 x5.length cp7), (4, iv x8), (6, .bool (decide (x8 < 32)))]) ?_
  refine oD (qT ?_)
  by_cases hb9 : (decide (x8 < 32)) = true
  ·
   rw [if_pos hb9] at h1
   refine cY (b := decide (x8 < 32)) hb9 ?_
   refine jS (qT (cQ (jB (cR [0, 1, 2, 3, 4, 5, 6] ?_))))
   refine oP (r := [2, 3, 4, 5, 6]) [0, 1] (S' := [(1, pb b1), (4, iv x8), (9, .slice A6 x5.length cp7), (10, iv x8)]) ?_
   obtain ⟨hg10, h1⟩ := guardS h1
   refine oC (jY (Yl.indexArr (d := 11) (T := 23) (k := .i64) (j := x8) (g := b1) (o := 0) (by kernel_rfl) Go.Proofs.Tryz.underlying23 ty5 hg10.1 hg10.2) hI ?_)
   refine oC (jY (jL (d := 12) (T := 5) (v := .int .u8 (gt a0 x8)) (by kernel_rfl) (ldB ty5 (l := cA (Value.int .u8) a0) (o := 0 + x8.toNat * 1) (v := .int .u8 (gt a0 x8)) (pick2 _ _ _) (arr_get _ _ hg10.1 (by have := And.intro hl_a0 hg10.2; omega)))) hI ?_)
   refine oC (Does.buildSlice (en := (cI .u8)) (d := 13) (n := 1) (T := 52) (ps := [(0, .int .u8 (gt a0 x8))]) ([gt a0 x8] : List Int) (by kernel_rfl) Go.Proofs.Tryz.underlying52 ty5 (by kernel_rfl) (by kernel_rfl) (by kernel_rfl) (by kernel_rfl) (len_all (fun _ => rfl)) hI ?_)
   intro b11 w hI
   obtain ⟨hg12, h1⟩ := guardS h1
   have hI := hI.mono (pick2 _ _ _)
   refine oC (Does.append (d := 14) (t := 52) (tx := 52) (ty := 52) (ys := x5) (zs := ([gt a0 x8] : List Int)) (x := .slice (some ⟨b11, 0, none⟩) (([gt a0 x8] : List Int).length) 1) (by kernel_rfl) Go.Proofs.Tryz.underlying52 ty5 (by kernel_rfl) hI (src_own Go.Proofs.Tryz.underlying52 (hI.mono (pick2 _ _ _)) (one_flat _ (fun _ => rfl))) (ownS_facts (hI.mono (pick2 _ _ _))).2.2 (by unfold LIM at hg12; omega) hg12 ?_)
   intro A13 cp14 w hI
   refine oP (r := []) [6] (S' := [(1, pb b1), (3, .slice A13 ((x5 ++ ([gt a0 x8] : List Int)).length) cp14), (4, iv x8)]) ?_
   refine oD (jN (qT (cR [0, 1, 2] ?_)))
   refine oP (r := []) [0, 1, 2] (S' := [(1, pb b1), (3, .slice A13 ((x5 ++ ([gt a0 x8] : List Int)).length) cp14), (4, iv (wi64 (x8 + 1)))]) ?_
   refine oD ?_
   have hI := hI.mono (pick2 _ _ _)
   have hI := hI.drop
   exact jT fun a ha => ⟨k, Nat.lt_succ_self k, x5 ++ ([gt a0 x8] : List Int), wi64 (x8 + 1), A13, cp14, h1, ha.keep [1, 3, 4] (by kernel_rfl), hI⟩
  ·
   rw [if_neg hb9] at h1
   refine cN (b := decide (x8 < 32)) (by simpa using hb9) ?_
   refine jZ ?_
   refine jX (jX ?_)
   refine Qn.block ?_
   have hI := hI.mono (pick2 _ _ _)
   have hI := hI.drop
   have e := someS h1
   subst e
   exact jT fun a ha => ⟨x5, A6, cp7, rfl, ha.keep [3] (by kernel_rfl), hI⟩
 ·
  rintro a w ⟨x2, A3, cp4, rfl, ha, hI⟩
  try dsimp only at h0
  refine Qn.of ?_ ha
  refine qT (cQ (cR [0, 1, 2] ?_))
  refine oP (r := [1, 2]) [0] (S' := [(15, .slice A3 x2.length cp4)]) ?_
  refine oC (Does.b2sOwn (d := 16) (src := 52) (dst := 9) (xs := x2) (by kernel_rfl) Go.Proofs.Tryz.underlying52 Go.Proofs.Tryz.underlying5 Go.Proofs.Tryz.underlying9 hI ?_)
  refine oP (r := []) [2] (S' := [(2, .string (strOfNums x2))]) ?_
  refine oD (qT (jE ?_))
  have hI := hI.drop
  have e := someS h0
  subst e
  refine qK [2] (S' := [(2, .string (strOfNums x2))]) ?_
  exact post_ret (v := .string (strOfNums x2)) (fun a ha => jU (vs := [.string (strOfNums x2)]) (.tmp (t := 2) (by kernel_rfl) .nil) ha (by kernel_rfl)) ⟨rfl, hI⟩
/-- cenotaph/cenotaphref04.Sum -/
theorem c28 (w0 w : World) (Z : Hp) (A : HP) (hI : Inv w0 Z w A) (hT : Tabs Z) (a0 : (List Int)) (hl_a0 : a0.length = 32) (r : ByteArray) (h0 : ref04_Sum a0 = some r) :
  Calls prog 28 #[.agg (q8c a0).toArray] w (fun e w' => e = .returned (.string r) ∧ Inv w0 Z w' A) := by
 have e4 := calls_intro (R := (fun e w' => e = .returned (.string r) ∧ Inv w0 Z w' A)) (w := w) (args := [.agg (q8c a0).toArray]) (fn := Go.Proofs.Tryz.f28) 5 Go.Proofs.Tryz.func28 (by rfl) Go.Proofs.Tryz.ntmps28 (by kernel_rfl)
 refine e4 ?_
 clear e4
 unfold ref04_Sum at h0
 refine cQ (cR [0, 1] ?_)
 refine oC (Does.boxL (d := 1) (T := 23) (v := .agg (q8c a0).toArray) (q8c a0) (by kernel_rfl) hI (by kernel_rfl) ?_)
 intro b1 w hI
 refine oP (r := []) [1] (S' := [(1, pb b1)]) ?_
 refine oD (qT (cQ (cR [0, 1, 2] ?_)))
 refine oC (jY (jL (d := 3) (T := 23) (v := .agg (q8c a0).toArray) (by kernel_rfl) (ldBN ty23 (l := cA (Value.int .u8) a0) (o := 0) (cs := cA (Value.int .u8) a0) (ent_refl _) ((cA_length _ _).trans hl_a0) (whole _ _ ((cA_length _ _).trans hl_a0)))) hI ?_)
 obtain ⟨y3, hc2, h0⟩ := bindS h0
 try dsimp only at h0
 refine oC (jC (d := some 4) (n := 53) (vs := [.agg (q8c a0).toArray]) (by kernel_rfl) en53 (c53 w0 w _ _ hI hT a0 hl_a0 _ hc2) ?_)
 rintro e w ⟨rfl, hI⟩
 refine ⟨_, rfl, ?_⟩
 refine oP (r := []) [2] (S' := [(2, .string y3)]) ?_
 refine oD (qT (jE ?_))
 have hI := hI.drop
 have e := someS h0
 subst e
 refine qK [2] (S' := [(2, .string y3)]) ?_
 exact post_ret (v := .string y3) (fun a ha => jU (vs := [.string y3]) (.tmp (t := 2) (by kernel_rfl) .nil) ha (by kernel_rfl)) ⟨rfl, hI⟩
/-- cenotaph/cenotaphref05.tells -/
theorem c55 (w0 w : World) (Z : Hp) (A : HP) (hI : Inv w0 Z w A) (hT : Tabs Z) (a0 : Int) (r : (List Bool)) (h0 : ref05_tells a0 = some r) :
  Calls prog 55 #[iv a0] w (fun e w' => e = .returned (.agg (cA Value.bool r).toArray) ∧ r.length = 5 ∧ Inv w0 Z w' A) := by
 have e4 := calls_intro (R := (fun e w' => e = .returned (.agg (cA Value.bool r).toArray) ∧ r.length = 5 ∧ Inv w0 Z w' A)) (w := w) (args := [iv a0]) (fn := Go.Proofs.Tryz.f55) 25 Go.Proofs.Tryz.func55 (by rfl) Go.Proofs.Tryz.ntmps55 (by kernel_rfl)
 refine e4 ?_
 clear e4
 unfold ref05_tells at h0
 refine cQ (cR [0] ?_)
 refine oC (jA (d := 2) (T := 90) (cA Value.bool (List.replicate 5 (false : Bool))) (by kernel_rfl) ty90 hI (by kernel_rfl) ?_)
 intro b1 w hI
 refine oD (qT (cQ (cQ (cR [0] ?_))))
 refine oP (r := []) [0] (S' := [(2, pb b1), (3, iv a0)]) ?_
 refine oD (qT (jB ?_))
 obtain ⟨r1, h1, h0⟩ := bindS h0
 refine jM (fun a w => ∃ (x2 : Bool), x2 = r1 ∧ Fr 25 [(2, pb b1), (3, iv a0), (4, .bool x2)] a ∧ Inv w0 Z w (star (pt b1 (.cells (cA Value.bool (List.replicate 5 (false : Bool))).toArray 90 (0, 0))) A)) ?_ ?_
 ·
  refine cQ (cR [0, 1] ?_)
  refine oP (r := []) [0, 1] (S' := [(2, pb b1), (3, iv a0), (4, .bool (a0 == 0))]) ?_
  refine oD (qT ?_)
  by_cases hb3 : (a0 == 0) = true
  ·
   rw [if_pos hb3] at h1
   refine cY (b := a0 == 0) hb3 ?_
   refine jS ?_
   have e := someS h1
   subst e
   exact jT fun a ha => ⟨a0 == 0, rfl, ha.keep [2, 3, 4] (by kernel_rfl), hI⟩
  ·
   rw [if_neg hb3] at h1
   refine cN (b := a0 == 0) (by simpa using hb3) ?_
   refine cQ (cR [0, 1] ?_)
   refine oP (r := []) [0, 1] (S' := [(2, pb b1), (3, iv a0), (4, .bool (a0 == 4))]) ?_
   refine oD (qT ?_)
   by_cases hb4 : (a0 == 4) = true
   ·
    rw [if_pos hb4] at h1
    refine cY (b := a0 == 4) hb4 ?_
    refine jS ?_
    have e := someS h1
    subst e
    exact jT fun a ha => ⟨a0 == 4, rfl, ha.keep [2, 3, 4] (by kernel_rfl), hI⟩
   ·
    rw [if_neg hb4] at h1
    refine cN (b := a0 == 4) (by simpa using hb4) ?_
    refine cR [0, 1] ?_
    refine oP (r := []) [0, 1] (S' := [(2, pb b1), (3, iv a0), (4, .bool (a0 == 5))]) ?_
    refine oD ?_
    have e := someS h1
    subst e
    exact jT fun a ha => ⟨a0 == 5, rfl, ha.keep [2, 3, 4] (by kernel_rfl), hI⟩
 ·
  rintro a w ⟨x2, rfl, ha, hI⟩
  try dsimp only at h0
  refine CodT.of ?_ ha
  by_cases hb5 : x2 = true
  ·
   rw [if_pos hb5] at h0
   refine cY (b := x2) hb5 ?_
   refine cQ (cR [0, 1] ?_)
   refine oP (r := [1]) [0] (S' := [(2, pb b1), (8, .agg (cA Value.bool ([true, true, false, false, false] : List Bool)).toArray)]) ?_
   refine oC (jV (T := 90) (b := b1) (n := 5) (xs := (List.replicate 5 (false : Bool))) (ys := ([true, true, false, false, false] : List Bool)) (by kernel_rfl) ty90 hI (fun _ => rfl) (by kernel_rfl) (by kernel_rfl) ?_)
   intro w hI
   refine oD (qT (jE (jQ (jR ?_))))
   have hL6 := (ldBN ty90 (l := cA Value.bool ([true, true, false, false, false] : List Bool)) (o := 0) (cs := cA Value.bool ([true, true, false, false, false] : List Bool)) (ent_refl _) ((cA_length _ _).trans (by kernel_rfl)) (whole _ _ ((cA_length _ _).trans (by kernel_rfl)))) w hI
   have hI := hI.drop
   have e := someS h0
   subst e
   refine qK [2] (S' := [(2, pb b1)]) ?_
   exact post_ret (v := .agg (cA Value.bool ([true, true, false, false, false] : List Bool)).toArray) (fun a ha => jU (vs := [.agg (cA Value.bool ([true, true, false, false, false] : List Bool)).toArray]) (.cell (t := 2) (T := 90) (ad := ⟨b1, 0, none⟩) (by kernel_rfl) hL6 .nil) ha (by kernel_rfl)) ⟨rfl, (by kernel_rfl), hI⟩
  ·
   rw [if_neg hb5] at h0
   refine cN (b := x2) (by simpa using hb5) ?_
   refine cQ (cR [0, 1] ?_)
   refine oP (r := []) [0, 1] (S' := [(2, pb b1), (3, iv a0), (9, .bool (a0 == 1))]) ?_
   refine oD (qT ?_)
   by_cases hb7 : (a0 == 1) = true
   ·
    rw [if_pos hb7] at h0
    refine cY (b := a0 == 1) hb7 ?_
    refine cQ (cR [0, 1] ?_)
    refine oP (r := [1]) [0] (S' := [(2, pb b1), (11, .agg (cA Value.bool ([true, false, false, true, false] : List Bool)).toArray)]) ?_
    refine oC (jV (T := 90) (b := b1) (n := 5) (xs := (List.replicate 5 (false : Bool))) (ys := ([true, false, false, true, false] : List Bool)) (by kernel_rfl) ty90 hI (fun _ => rfl) (by kernel_rfl) (by kernel_rfl) ?_)
    intro w hI
    refine oD (qT (jE (jQ (jR ?_))))
    have hL8 := (ldBN ty90 (l := cA Value.bool ([true, false, false, true, false] : List Bool)) (o := 0) (cs := cA Value.bool ([true, false, false, true, false] : List Bool)) (ent_refl _) ((cA_length _ _).trans (by kernel_rfl)) (whole _ _ ((cA_length _ _).trans (by kernel_rfl)))) w hI
    have hI := hI.drop
    have e := someS h0
    subst e
    refine qK [2] (S' := [(2, pb b1)]) ?_
    exact post_ret (v := .agg (cA Value.bool ([true, false, false, true, false] : List Bool)).toArray) (fun a ha => jU (vs := [.agg (cA Value.bool ([true, false, false, true, false] : List Bool)).toArray]) (.cell (t := 2) (T := 90) (ad := ⟨b1, 0, none⟩) (by kernel_rfl) hL8 .nil) ha (by kernel_rfl)) ⟨rfl, (by kernel_rfl), hI⟩
   ·
    rw [if_neg hb7] at h0
    refine cN (b := a0 == 1) (by simpa using hb7) ?_
    refine cQ (cR [0, 1] ?_)
    refine oP (r := []) [0, 1] (S' := [(2, pb b1), (3, iv a0), (12, .bool (a0 == 2))]) ?_
    refine oD (qT ?_)
    by_cases hb9 : (a0 == 2) = true
    ·
     rw [if_pos hb9] at h0
     refine cY (b := a0 == 2) hb9 ?_
     refine cQ (cR [0, 1] ?_)
     refine oP (r := [1]) [0] (S' := [(2, pb b1), (14, .agg (cA Value.bool ([true, false, true, true, true] : List Bool)).toArray)]) ?_
     refine oC (jV (T := 90) (b := b1) (n := 5) (xs := (List.replicate 5 (false : Bool))) (ys := ([true, false, true, true, true] : List Bool)) (by kernel_rfl) ty90 hI (fun _ => rfl) (by kernel_rfl) (by kernel_rfl) ?_)
     intro w hI
     refine oD (qT (jE (jQ (jR ?_))))
     have hL10 := (ldBN ty90 (l := cA Value.bool ([true, false, true, true, true] : List Bool)) (o := 0) (cs := cA Value.bool ([true, false, true, true, true] : List Bool)) (ent_refl _) ((cA_length _ _).trans (by kernel_rfl)) (whole _ _ ((cA_length _ _).trans (by kernel_rfl)))) w hI
     have hI := hI.drop
     have e := someS h0
     subst e
     refine qK [2] (S' := [(2, pb b1)]) ?_
     exact post_ret (v := .agg (cA Value.bool ([true, false, true, true, true] : List Bool)).toArray) (fun a ha => jU (vs := [.agg (cA Value.bool ([true, false, true, true, true] : List Bool)).toArray]) (.cell (t := 2) (T := 90) (ad := ⟨b1, 0, none⟩) (by kernel_rfl) hL10 .nil) ha (by kernel_rfl)) ⟨rfl, (by kernel_rfl), hI⟩
    ·
     rw [if_neg hb9] at h0
     refine cN (b := a0 == 2) (by simpa using hb9) ?_
     refine cQ (cR [0, 1] ?_)
     refine oP (r := []) [0, 1] (S' := [(2, pb b1), (3, iv a0), (15, .bool (a0 == 3))]) ?_
     refine oD (qT ?_)
     by_cases hb11 : (a0 == 3) = true
     ·
      rw [if_pos hb11] at h0
      refine cY (b := a0 == 3) hb11 ?_
      refine cQ (cR [0, 1] ?_)
      refine oP (r := [1]) [0] (S' := [(2, pb b1), (17, .agg (cA Value.bool ([true, false, true, false, false] : List Bool)).toArray)]) ?_
      refine oC (jV (T := 90) (b := b1) (n := 5) (xs := (List.replicate 5 (false : Bool))) (ys := ([true, false, true, false, false] : List Bool)) (by kernel_rfl) ty90 hI (fun _ => rfl) (by kernel_rfl) (by kernel_rfl) ?_)
      intro w hI
      refine oD (qT (jE (jQ (jR ?_))))
      have hL12 := (ldBN ty90 (l := cA Value.bool ([true, false, true, false, false] : List Bool)) (o := 0) (cs := cA Value.bool ([true, false, true, false, false] : List Bool)) (ent_refl _) ((cA_length _ _).trans (by kernel_rfl)) (whole _ _ ((cA_length _ _).trans (by kernel_rfl)))) w hI
      have hI := hI.drop
      have e := someS h0
      subst e
      refine qK [2] (S' := [(2, pb b1)]) ?_
      exact post_ret (v := .agg (cA Value.bool ([true, false, true, false, false] : List Bool)).toArray) (fun a ha => jU (vs := [.agg (cA Value.bool ([true, false, true, false, false] : List Bool)).toArray]) (.cell (t := 2) (T := 90) (ad := ⟨b1, 0, none⟩) (by kernel_rfl) hL12 .nil) ha (by kernel_rfl)) ⟨rfl, (by kernel_rfl), hI⟩
     ·
      rw [if_neg hb11] at h0
      refine cN (b := a0 == 3) (by simpa using hb11) ?_
      refine cQ (cR [0, 1] ?_)
      refine oP (r := []) [0, 1] (S' := [(2, pb b1), (3, iv a0), (18, .bool (a0 == 6))]) ?_
      refine oD (qT ?_)
      by_cases hb13 : (a0 == 6) = true
      ·
       rw [if_pos hb13] at h0
       refine cY (b := a0 == 6) hb13 ?_
       refine cQ (cR [0, 1] ?_)
       refine oP (r := [1]) [0] (S' := [(2, pb b1), (20, .agg (cA Value.bool ([true, false, false, false, false] : List Bool)).toArray)]) ?_
       refine oC (jV (T := 90) (b := b1) (n := 5) (xs := (List.replicate 5 (false : Bool))) (ys := ([true, false, false, false, false] : List Bool)) (by kernel_rfl) ty90 hI (fun _ => rfl) (by kernel_rfl) (by kernel_rfl) ?_)
       intro w hI
       refine oD (qT (jE (jQ (jR ?_))))
       have hL14 := (ldBN ty90 (l := cA Value.bool ([true, false, false, false, false] : List Bool)) (o := 0) (cs := cA Value.bool ([true, false, false, false, false] : List Bool)) (ent_refl _) ((cA_length _ _).trans (by kernel_rfl)) (whole _ _ ((cA_length _ _).trans (by kernel_rfl)))) w hI
       have hI := hI.drop
       have e := someS h0
       subst e
       refine qK [2] (S' := [(2, pb b1)]) ?_
       exact post_ret (v := .agg (cA Value.bool ([true, false, false, false, false] : List Bool)).toArray) (fun a ha => jU (vs := [.agg (cA Value.bool ([true, false, false, false, false] : List Bool)).toArray]) (.cell (t := 2) (T := 90) (ad := ⟨b1, 0, none⟩) (by kernel_rfl) hL14 .nil) ha (by kernel_rfl)) ⟨rfl, (by kernel_rfl), hI⟩
      ·
       rw [if_neg hb13] at h0
       refine cN (b := a0 == 6) (by simpa using hb13) ?_
       refine cQ (cR [0, 1] ?_)
       refine oP (r := []) [0, 1] (S' := [(2, pb b1), (21, .bool (a0 == 7))]) ?_
       refine oD (qT ?_)
       by_cases hb15 : (a0 == 7) = true
       ·
        rw [if_pos hb15] at h0
        refine cY (b := a0 == 7) hb15 ?_
        refine cQ (cR [0, 1] ?_)
        refine oP (r := [1]) [0] (S' := [(2, pb b1), (23, .agg (cA Value.bool ([false, false, true, false, false] : List Bool)).toArray)]) ?_
        refine oC (jV (T := 90) (b := b1) (n := 5) (xs := (List.replicate 5 (false : Bool))) (ys := ([false, false, true, false, false] : List Bool)) (by kernel_rfl) ty90 hI (fun _ => rfl) (by kernel_rfl) (by kernel_rfl) ?_)
        intro w hI
        refine oD (qT (jE (jQ (jR ?_))))
        have hL16 := (ldBN ty90 (l := cA Value.bool ([false, false, true, false, false] : List Bool)) (o := 0) (cs := cA Value.bool ([false, false, true, false, false] : List Bool)) (ent_refl _) ((cA_length _ _).trans (by kernel_rfl)) (whole _ _ ((cA_length _ _).trans (by kernel_rfl)))) w hI
        have hI := hI.drop
        have e := someS h0
        subst e
        refine qK [2] (S' := [(2, pb b1)]) ?_
        exact post_ret (v := .agg (cA Value.bool ([false, false, true, false, false] : List Bool)).toArray) (fun a ha => jU (vs := [.agg (cA Value.bool ([false, false, true, false, false] : List Bool)).toArray]) (.cell (t := 2) (T := 90) (ad := ⟨b1, 0, none⟩) (by kernel_rfl) hL16 .nil) ha (by kernel_rfl)) ⟨rfl, (by kernel_rfl), hI⟩
       ·
        rw [if_neg hb15] at h0
        refine cN (b := a0 == 7) (by simpa using hb15) ?_
        refine jS (jN (qT (cQ (cR [0, 1] ?_))))
        refine oP (r := [1]) [0] (S' := [(2, pb b1), (24, .agg (cA Value.bool ([false, false, false, false, false] : List Bool)).toArray)]) ?_
        refine oC (jV (T := 90) (b := b1) (n := 5) (xs := (List.replicate 5 (false : Bool))) (ys := ([false, false, false, false, false] : List Bool)) (by kernel_rfl) ty90 hI (fun _ => rfl) (by kernel_rfl) (by kernel_rfl) ?_)
        intro w hI
        refine oD (qT (jE ?_))
        have hL17 := (ldBN ty90 (l := cA Value.bool ([false, false, false, false, false] : List Bool)) (o := 0) (cs := cA Value.bool ([false, false, false, false, false] : List Bool)) (ent_refl _) ((cA_length _ _).trans (by kernel_rfl)) (whole _ _ ((cA_length _ _).trans (by kernel_rfl)))) w hI
        have hI := hI.drop
        have e := someS h0
        subst e
        refine qK [2] (S' := [(2, pb b1)]) ?_
        exact post_ret (v := .agg (cA Value.bool ([false, false, false, false, false] : List Bool)).toArray) (fun a ha => jU (vs := [.agg (cA Value.bool ([false, false, false, false, false] : List Bool)).toArray]) (.cell (t := 2) (T := 90) (ad := ⟨b1, 0, none⟩) (by kernel_rfl) hL17 .nil) ha (by kernel_rfl)) ⟨rfl, (by kernel_rfl), hI⟩
end Go.Cen
