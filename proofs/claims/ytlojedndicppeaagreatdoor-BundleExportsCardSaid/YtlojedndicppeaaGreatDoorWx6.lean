/- That the machine computes these: walks, printed by a program of ours. -/
import Derived.Test.YtlojedndicppeaaGreatDoorPx
import Derived.Test.YtlojedndicppeaaGreatDoorWx4
set_option linter.unusedVariables false
set_option linter.unusedSimpArgs false
namespace Go.Cen
set_option maxRecDepth 100000
set_option maxHeartbeats 4000000
/-- cenotaph/cenotaphref02.roots -/
theorem c102 (w0 w : World) (Z : Hp) (A : HP) (hI : Inv w0 Z w A) (hT : Tabs Z)  (r : (List Int)) (h0 : ref02_roots = some r) :
  Calls prog 102 #[] w (fun e w' => e = .returned (.agg (cA (Value.int .u32) r).toArray) ∧ r.length = 8 ∧ Inv w0 Z w' A) := by
 have e4 := calls_intro (R := (fun e w' => e = .returned (.agg (cA (Value.int .u32) r).toArray) ∧ r.length = 8 ∧ Inv w0 Z w' A)) (w := w) (args := []) (fn := Go.Proofs.Tryz.f102) 2 Go.Proofs.Tryz.func102 (by rfl) Go.Proofs.Tryz.ntmps102 (by kernel_rfl)
 refine e4 ?_
 clear e4
 unfold ref02_roots at h0
 refine cQ (cR [0] ?_)
 refine oC (jA (d := 0) (T := 100) (cA (Value.int .u32) (List.replicate 8 (0 : Int))) (by kernel_rfl) ty100 hI (by kernel_rfl) ?_)
 intro b1 w hI
 refine oD (qT (cQ (cR [0, 1] ?_)))
 refine oP (r := [1]) [0] (S' := [(0, pb b1), (1, .agg (cA (Value.int .u32) ([1779033703, 3144134277, 1013904242, 2773480762, 1359893119, 2600822924, 528734635, 1541459225] : List Int)).toArray)]) ?_
 refine oC (jV (T := 100) (b := b1) (n := 8) (xs := (List.replicate 8 (0 : Int))) (ys := ([1779033703, 3144134277, 1013904242, 2773480762, 1359893119, 2600822924, 528734635, 1541459225] : List Int)) (by kernel_rfl) ty100 hI (fun _ => rfl) (by kernel_rfl) (by kernel_rfl) ?_)
 intro w hI
 refine oD (qT (jE ?_))
 have hL2 := (ldBN ty100 (l := cA (Value.int .u32) ([1779033703, 3144134277, 1013904242, 2773480762, 1359893119, 2600822924, 528734635, 1541459225] : List Int)) (o := 0) (cs := cA (Value.int .u32) ([1779033703, 3144134277, 1013904242, 2773480762, 1359893119, 2600822924, 528734635, 1541459225] : List Int)) (ent_refl _) ((cA_length _ _).trans (by kernel_rfl)) (whole _ _ ((cA_length _ _).trans (by kernel_rfl)))) w hI
 have hI := hI.drop
 have e := someS h0
 subst e
 refine qK [0] (S' := [(0, pb b1)]) ?_
 exact post_ret (v := .agg (cA (Value.int .u32) ([1779033703, 3144134277, 1013904242, 2773480762, 1359893119, 2600822924, 528734635, 1541459225] : List Int)).toArray) (fun a ha => jU (vs := [.agg (cA (Value.int .u32) ([1779033703, 3144134277, 1013904242, 2773480762, 1359893119, 2600822924, 528734635, 1541459225] : List Int)).toArray]) (.cell (t := 0) (T := 100) (ad := ⟨b1, 0, none⟩) (by kernel_rfl) hL2 .nil) ha (by kernel_rfl)) ⟨rfl, (by kernel_rfl), hI⟩
/-- cenotaph/cenotaphref02.cubes -/
theorem c103 (w0 w : World) (Z : Hp) (A : HP) (hI : Inv w0 Z w A) (hT : Tabs Z)  (r : (List Int)) (h0 : ref02_cubes = some r) :
  Calls prog 103 #[] w (fun e w' => e = .returned (.agg (cA (Value.int .u32) r).toArray) ∧ r.length = 64 ∧ Inv w0 Z w' A) := by
 have e4 := calls_intro (R := (fun e w' => e = .returned (.agg (cA (Value.int .u32) r).toArray) ∧ r.length = 64 ∧ Inv w0 Z w' A)) (w := w) (args := []) (fn := Go.Proofs.Tryz.f103) 2 Go.Proofs.Tryz.func103 (by rfl) Go.Proofs.Tryz.ntmps103 (by kernel_rfl)
 refine e4 ?_
 clear e4
 unfold ref02_cubes at h0
 refine cQ (cR [0] ?_)
 refine oC (jA (d := 0) (T := 101) (cA (Value.int .u32) (List.replicate 64 (0 : Int))) (by kernel_rfl) ty101 hI (by kernel_rfl) ?_)
 intro b1 w hI
 refine oD (qT (cQ (cR [0, 1] ?_)))
 refine oP (r := [1]) [0] (S' := [(0, pb b1), (1, .agg (cA (Value.int .u32) ([1116352408, 1899447441, 3049323471, 3921009573, 961987163, 1508970993, 2453635748, 2870763221, 3624381080, 310598401, 607225278, 1426881987, 1925078388, 2162078206, 2614888103, 3248222580, 3835390401, 4022224774, 264347078, 604807628, 770255983, 1249150122, 1555081692, 1996064986, 2554220882, 2821834349, 2952996808, 3210313671, 3336571891, 3584528711, 113926993, 338241895, 666307205, 773529912, 1294757372, 1396182291, 1695183700, 1986661051, 2177026350, 2456956037, 2730485921, 2820302411, 3259730800, 3345764771, 3516065817, 3600352804, 4094571909, 275423344, 430227734, 506948616, 659060556, 883997877, 958139571, 1322822218, 1537002063, 1747873779, 1955562222, 2024104815, 2227730452, 2361852424, 2428436474, 2756734187, 3204031479, 3329325298] : List Int)).toArray)]) ?_
 refine oC (jV (T := 101) (b := b1) (n := 64) (xs := (List.replicate 64 (0 : Int))) (ys := ([1116352408, 1899447441, 3049323471, 3921009573, 961987163, 1508970993, 2453635748, 2870763221, 3624381080, 310598401, 607225278, 1426881987, 1925078388, 2162078206, 2614888103, 3248222580, 3835390401, 4022224774, 264347078, 604807628, 770255983, 1249150122, 1555081692, 1996064986, 2554220882, 2821834349, 2952996808, 3210313671, 3336571891, 3584528711, 113926993, 338241895, 666307205, 773529912, 1294757372, 1396182291, 1695183700, 1986661051, 2177026350, 2456956037, 2730485921, 2820302411, 3259730800, 3345764771, 3516065817, 3600352804, 4094571909, 275423344, 430227734, 506948616, 659060556, 883997877, 958139571, 1322822218, 1537002063, 1747873779, 1955562222, 2024104815, 2227730452, 2361852424, 2428436474, 2756734187, 3204031479, 3329325298] : List Int)) (by kernel_rfl) ty101 hI (fun _ => rfl) (by kernel_rfl) (by kernel_rfl) ?_)
 intro w hI
 refine oD (qT (jE ?_))
 have hL2 := (ldBN ty101 (l := cA (Value.int .u32) ([1116352408, 1899447441, 3049323471, 3921009573, 961987163, 1508970993, 2453635748, 2870763221, 3624381080, 310598401, 607225278, 1426881987, 1925078388, 2162078206, 2614888103, 3248222580, 3835390401, 4022224774, 264347078, 604807628, 770255983, 1249150122, 1555081692, 1996064986, 2554220882, 2821834349, 2952996808, 3210313671, 3336571891, 3584528711, 113926993, 338241895, 666307205, 773529912, 1294757372, 1396182291, 1695183700, 1986661051, 2177026350, 2456956037, 2730485921, 2820302411, 3259730800, 3345764771, 3516065817, 3600352804, 4094571909, 275423344, 430227734, 506948616, 659060556, 883997877, 958139571, 1322822218, 1537002063, 1747873779, 1955562222, 2024104815, 2227730452, 2361852424, 2428436474, 2756734187, 3204031479, 3329325298] : List Int)) (o := 0) (cs := cA (Value.int .u32) ([1116352408, 1899447441, 3049323471, 3921009573, 961987163, 1508970993, 2453635748, 2870763221, 3624381080, 310598401, 607225278, 1426881987, 1925078388, 2162078206, 2614888103, 3248222580, 3835390401, 4022224774, 264347078, 604807628, 770255983, 1249150122, 1555081692, 1996064986, 2554220882, 2821834349, 2952996808, 3210313671, 3336571891, 3584528711, 113926993, 338241895, 666307205, 773529912, 1294757372, 1396182291, 1695183700, 1986661051, 2177026350, 2456956037, 2730485921, 2820302411, 3259730800, 3345764771, 3516065817, 3600352804, 4094571909, 275423344, 430227734, 506948616, 659060556, 883997877, 958139571, 1322822218, 1537002063, 1747873779, 1955562222, 2024104815, 2227730452, 2361852424, 2428436474, 2756734187, 3204031479, 3329325298] : List Int)) (ent_refl _) ((cA_length _ _).trans (by kernel_rfl)) (whole _ _ ((cA_length _ _).trans (by kernel_rfl)))) w hI
 have hI := hI.drop
 have e := someS h0
 subst e
 refine qK [0] (S' := [(0, pb b1)]) ?_
 exact post_ret (v := .agg (cA (Value.int .u32) ([1116352408, 1899447441, 3049323471, 3921009573, 961987163, 1508970993, 2453635748, 2870763221, 3624381080, 310598401, 607225278, 1426881987, 1925078388, 2162078206, 2614888103, 3248222580, 3835390401, 4022224774, 264347078, 604807628, 770255983, 1249150122, 1555081692, 1996064986, 2554220882, 2821834349, 2952996808, 3210313671, 3336571891, 3584528711, 113926993, 338241895, 666307205, 773529912, 1294757372, 1396182291, 1695183700, 1986661051, 2177026350, 2456956037, 2730485921, 2820302411, 3259730800, 3345764771, 3516065817, 3600352804, 4094571909, 275423344, 430227734, 506948616, 659060556, 883997877, 958139571, 1322822218, 1537002063, 1747873779, 1955562222, 2024104815, 2227730452, 2361852424, 2428436474, 2756734187, 3204031479, 3329325298] : List Int)).toArray) (fun a ha => jU (vs := [.agg (cA (Value.int .u32) ([1116352408, 1899447441, 3049323471, 3921009573, 961987163, 1508970993, 2453635748, 2870763221, 3624381080, 310598401, 607225278, 1426881987, 1925078388, 2162078206, 2614888103, 3248222580, 3835390401, 4022224774, 264347078, 604807628, 770255983, 1249150122, 1555081692, 1996064986, 2554220882, 2821834349, 2952996808, 3210313671, 3336571891, 3584528711, 113926993, 338241895, 666307205, 773529912, 1294757372, 1396182291, 1695183700, 1986661051, 2177026350, 2456956037, 2730485921, 2820302411, 3259730800, 3345764771, 3516065817, 3600352804, 4094571909, 275423344, 430227734, 506948616, 659060556, 883997877, 958139571, 1322822218, 1537002063, 1747873779, 1955562222, 2024104815, 2227730452, 2361852424, 2428436474, 2756734187, 3204031479, 3329325298] : List Int)).toArray]) (.cell (t := 0) (T := 101) (ad := ⟨b1, 0, none⟩) (by kernel_rfl) hL2 .nil) ha (by kernel_rfl)) ⟨rfl, (by kernel_rfl), hI⟩
/-- cenotaph/cenotaphref02.Pad -/
theorem c104 (w0 w : World) (Z : Hp) (A : HP) (hI : Inv w0 Z w A) (hT : Tabs Z) (a0 : ByteArray) (r : ByteArray) (h0 : ref02_Pad a0 = some r) :
  Calls prog 104 #[.string a0] w (fun e w' => e = .returned (.string r) ∧ Inv w0 Z w' A) := by
 have e4 := calls_intro (R := (fun e w' => e = .returned (.string r) ∧ Inv w0 Z w' A)) (w := w) (args := [.string a0]) (fn := Go.Proofs.Tryz.f104) 39 Go.Proofs.Tryz.func104 (by rfl) Go.Proofs.Tryz.ntmps104 (by kernel_rfl)
 refine e4 ?_
 clear e4
 unfold ref02_Pad at h0
 refine cQ (cR [0] ?_)
 refine oP (r := []) [0] (S' := [(0, .string a0)]) ?_
 refine oD (qT (cQ (cR [0, 1, 2] ?_)))
 refine oP (r := [1, 2]) [0] (S' := [(0, .string a0), (7, .string a0)]) ?_
 obtain ⟨hg1, h0⟩ := guardS h0
 refine oC (Does.s2b (d := 8) (src := 9) (dst := 52) (s := a0) (by kernel_rfl) Go.Proofs.Tryz.underlying9 Go.Proofs.Tryz.underlying52 Go.Proofs.Tryz.underlying5 (Nat.le_trans hg1 (by decide)) hI ?_)
 intro A2 cp3 w hI
 refine oP (r := []) [2] (S' := [(0, .string a0), (3, .slice A2 ((byts a0).length) cp3)]) ?_
 refine oD (qT (cQ (cR [0, 1, 2, 3] ?_)))
 refine oP (r := [1, 2, 3]) [0] (S' := [(0, .string a0), (9, .slice A2 ((byts a0).length) cp3)]) ?_
 refine oC (Does.buildSlice (en := (cI .u8)) (d := 10) (n := 1) (T := 52) (ps := [(0, .int .u8 128)]) ([128] : List Int) (by kernel_rfl) Go.Proofs.Tryz.underlying52 ty5 (by kernel_rfl) (by kernel_rfl) (by kernel_rfl) (by kernel_rfl) (len_all (fun _ => rfl)) hI ?_)
 intro b4 w hI
 obtain ⟨hg5, h0⟩ := guardS h0
 have hI := hI.mono (pick2 _ _ _)
 refine oC (Does.append (d := 11) (t := 52) (tx := 52) (ty := 52) (ys := byts a0) (zs := ([128] : List Int)) (x := .slice (some ⟨b4, 0, none⟩) (([128] : List Int).length) 1) (by kernel_rfl) Go.Proofs.Tryz.underlying52 ty5 (by kernel_rfl) hI (src_own Go.Proofs.Tryz.underlying52 (hI.mono (pick2 _ _ _)) (one_flat _ (fun _ => rfl))) (ownS_facts (hI.mono (pick2 _ _ _))).2.2 (by unfold LIM at hg5; omega) hg5 ?_)
 intro A6 cp7 w hI
 refine oP (r := []) [3] (S' := [(0, .string a0), (3, .slice A6 (((byts a0) ++ ([128] : List Int)).length) cp7)]) ?_
 refine oD (qT (cQ ?_))
 obtain ⟨r1, h1, h0⟩ := bindS h0
 refine CodT.meet1 (fun a w => ∃ (x8 : (List Int)) (A9 : Option Addr) (cp10 : Nat), x8 = r1 ∧ Fr 39 [(0, .string a0), (3, .slice A9 x8.length cp10)] a ∧ Inv w0 Z w (star (ownS 5 (cI .u8) 1 A9 cp10 x8) A)) ?_ ?_
 ·
  refine jB ?_
  have hI := hI.mono (pick2 _ _ _)
  have hI := hI.drop
  refine (fun a ha => wp_loopN (fun k a w => ∃ (x11 : (List Int)) (A12 : Option Addr) (cp13 : Nat), ref02_Pad.l0 k x11 = some r1 ∧ Fr 39 [(0, .string a0), (3, .slice A12 x11.length cp13)] a ∧ Inv w0 Z w (star (ownS 5 (cI .u8) 1 A12 cp13 x11) A)) ?_ FU a w ⟨(byts a0) ++ ([128] : List Int), A6, cp7, h1, ha.keep [0, 3] (by kernel_rfl), hI⟩)
  clear h1 hI
  rintro k a w ⟨x11, A12, cp13, h1, ha, hI⟩
  rcases k with _ | k
  ·
   cases h1
  simp only [ref02_Pad.l0] at h1
  refine CodT.of ?_ ha
  refine cQ (cQ (cR [0, 1, 2, 3] ?_))
  refine oP (r := []) [0, 1, 2, 3] (S' := [(0, .string a0), (3, .slice A12 x11.length cp13), (15, .bool (((x11.length : Int).tmod 64) != 56))]) ?_
  refine oD (qT ?_)
  by_cases hb14 : (((x11.length : Int).tmod 64) != 56) = true
  ·
   rw [if_pos hb14] at h1
   refine cY (b := ((x11.length : Int).tmod 64) != 56) hb14 ?_
   refine jS (qT (jB (cR [0, 1, 2, 3] ?_)))
   refine oP (r := [1, 2, 3]) [0] (S' := [(0, .string a0), (16, .slice A12 x11.length cp13)]) ?_
   refine oC (Does.buildSlice (en := (cI .u8)) (d := 17) (n := 1) (T := 52) (ps := [(0, .int .u8 0)]) ([0] : List Int) (by kernel_rfl) Go.Proofs.Tryz.underlying52 ty5 (by kernel_rfl) (by kernel_rfl) (by kernel_rfl) (by kernel_rfl) (len_all (fun _ => rfl)) hI ?_)
   intro b15 w hI
   obtain ⟨hg16, h1⟩ := guardS h1
   have hI := hI.mono (pick2 _ _ _)
   refine oC (Does.append (d := 18) (t := 52) (tx := 52) (ty := 52) (ys := x11) (zs := ([0] : List Int)) (x := .slice (some ⟨b15, 0, none⟩) (([0] : List Int).length) 1) (by kernel_rfl) Go.Proofs.Tryz.underlying52 ty5 (by kernel_rfl) hI (src_own Go.Proofs.Tryz.underlying52 (hI.mono (pick2 _ _ _)) (one_flat _ (fun _ => rfl))) (ownS_facts (hI.mono (pick2 _ _ _))).2.2 (by unfold LIM at hg16; omega) hg16 ?_)
   intro A17 cp18 w hI
   refine oP (r := []) [3] (S' := [(0, .string a0), (3, .slice A17 ((x11 ++ ([0] : List Int)).length) cp18)]) ?_
   refine oD (jN ?_)
   have hI := hI.mono (pick2 _ _ _)
   have hI := hI.drop
   exact jT fun a ha => ⟨k, Nat.lt_succ_self k, x11 ++ ([0] : List Int), A17, cp18, h1, ha.keep [0, 3] (by kernel_rfl), hI⟩
  ·
   rw [if_neg hb14] at h1
   refine cN (b := ((x11.length : Int).tmod 64) != 56) (by simpa using hb14) ?_
   refine jZ ?_
   refine jX (jX ?_)
   refine Qn.block ?_
   have e := someS h1
   subst e
   exact jT fun a ha => ⟨x11, A12, cp13, rfl, ha.keep [0, 3] (by kernel_rfl), hI⟩
 ·
  rintro a w ⟨x8, A9, cp10, rfl, ha, hI⟩
  try dsimp only at h0
  refine Qn.of ?_ ha
  refine qT (cQ (cR [0, 1, 2, 3, 4] ?_))
  refine oP (r := []) [0, 1, 2, 3, 4] (S' := [(3, .slice A9 x8.length cp10), (4, .int .u64 (wu64 ((wu64 (a0.size : Int)) * 8)))]) ?_
  refine oD (qT (cQ (cR [0] ?_)))
  refine oP (r := []) [0] (S' := [(3, .slice A9 x8.length cp10), (4, .int .u64 (wu64 ((wu64 (a0.size : Int)) * 8))), (5, .slice none 0 0)]) ?_
  refine oD (qT (cQ (cQ (cR [0] ?_))))
  refine oP (r := []) [0] (S' := [(3, .slice A9 x8.length cp10), (4, .int .u64 (wu64 ((wu64 (a0.size : Int)) * 8))), (5, .slice none 0 0), (6, iv 0)]) ?_
  refine oD (qT ?_)
  obtain ⟨r1, h1, h0⟩ := bindS h0
  refine CodT.meet1 (fun a w => ∃ (x19 : (List Int)) (A20 : Option Addr) (cp21 : Nat), x19 = r1 ∧ Fr 39 [(3, .slice A9 x8.length cp10), (5, .slice A20 x19.length cp21)] a ∧ Inv w0 Z w (star (ownS 5 (cI .u8) 1 A20 cp21 x19) (star (ownS 5 (cI .u8) 1 A9 cp10 x8) A))) ?_ ?_
  ·
   refine jB ?_
   have hI := ownS_nil (α := Int) hI 5 (cI .u8) 1
   refine (fun a ha => wp_loopN (fun k a w => ∃ (x22 : Int) (x23 : (List Int)) (x26 : Int) (A24 : Option Addr) (cp25 : Nat), ref02_Pad.l1 k x22 x23 x26 = some r1 ∧ Fr 39 [(3, .slice A9 x8.length cp10), (4, .int .u64 x22), (5, .slice A24 x23.length cp25), (6, iv x26)] a ∧ Inv w0 Z w (star (ownS 5 (cI .u8) 1 A24 cp25 x23) (star (ownS 5 (cI .u8) 1 A9 cp10 x8) A))) ?_ FU a w ⟨wu64 ((wu64 (a0.size : Int)) * 8), ([] : List Int), 0, none, 0, h1, ha.keep [3, 4, 5, 6] (by kernel_rfl), hI⟩)
   clear h1 hI
   rintro k a w ⟨x22, x23, x26, A24, cp25, h1, ha, hI⟩
   rcases k with _ | k
   ·
    cases h1
   simp only [ref02_Pad.l1] at h1
   refine CodT.of ?_ ha
   refine cQ (cQ (cR [0, 1] ?_))
   refine oP (r := []) [0, 1] (S' := [(3, .slice A9 x8.length cp10), (4, .int .u64 x22), (5, .slice A24 x23.length cp25), (6, iv x26), (24, .bool (decide (x26 < 8)))]) ?_
   refine oD (qT ?_)
   by_cases hb27 : (decide (x26 < 8)) = true
   ·
    rw [if_pos hb27] at h1
    refine cY (b := decide (x26 < 8)) hb27 ?_
    refine jS (qT (cQ (jB (cQ (cR [0, 1, 2, 3, 4, 5, 6] ?_)))))
    refine oP (r := [3, 4, 5, 6]) [0, 1, 2] (S' := [(3, .slice A9 x8.length cp10), (4, .int .u64 x22), (5, .slice A24 x23.length cp25), (6, iv x26), (29, .int .u8 (wu8 (x22.tmod 256)))]) ?_
    refine oC (Does.buildSlice (en := (cI .u8)) (d := 30) (n := 1) (T := 52) (ps := [(0, .int .u8 (wu8 (x22.tmod 256)))]) ([wu8 (x22.tmod 256)] : List Int) (by kernel_rfl) Go.Proofs.Tryz.underlying52 ty5 (by kernel_rfl) (by kernel_rfl) (by kernel_rfl) (by kernel_rfl) (len_all (fun _ => rfl)) hI ?_)
    intro b28 w hI
    refine oP (r := [5, 6]) [4] (S' := [(3, .slice A9 x8.length cp10), (4, .int .u64 x22), (6, iv x26), (30, .slice (some ⟨b28, 0, none⟩) (([wu8 (x22.tmod 256)] : List Int).length) 1), (31, .slice A24 x23.length cp25)]) ?_
    obtain ⟨hg29, h1⟩ := guardS h1
    refine oC (Does.append (d := 32) (t := 52) (tx := 52) (ty := 52) (ys := ([wu8 (x22.tmod 256)] : List Int)) (zs := x23) (x := .slice A24 x23.length cp25) (by kernel_rfl) Go.Proofs.Tryz.underlying52 ty5 (by kernel_rfl) hI (src_own Go.Proofs.Tryz.underlying52 (hI.mono (pick2 _ _ _)) (one_flat _ (fun _ => rfl))) (ownS_facts (hI.mono (pick2 _ _ _))).2.2 (by unfold LIM at hg29; omega) hg29 ?_)
    intro A30 cp31 w hI
    refine oP (r := []) [6] (S' := [(3, .slice A9 x8.length cp10), (4, .int .u64 x22), (5, .slice A30 ((([wu8 (x22.tmod 256)] : List Int) ++ x23).length) cp31), (6, iv x26)]) ?_
    refine oD (qT (cR [0, 1, 2] ?_))
    refine oP (r := []) [0, 1, 2] (S' := [(3, .slice A9 x8.length cp10), (4, .int .u64 (wu64 (x22.tdiv 256))), (5, .slice A30 ((([wu8 (x22.tmod 256)] : List Int) ++ x23).length) cp31), (6, iv x26)]) ?_
    refine oD (jN (qT (cR [0, 1, 2] ?_)))
    refine oP (r := []) [0, 1, 2] (S' := [(3, .slice A9 x8.length cp10), (4, .int .u64 (wu64 (x22.tdiv 256))), (5, .slice A30 ((([wu8 (x22.tmod 256)] : List Int) ++ x23).length) cp31), (6, iv (wi64 (x26 + 1)))]) ?_
    refine oD ?_
    have hI := hI.mono (pick2 _ _ _)
    have hI := hI.drop
    exact jT fun a ha => ⟨k, Nat.lt_succ_self k, wu64 (x22.tdiv 256), ([wu8 (x22.tmod 256)] : List Int) ++ x23, wi64 (x26 + 1), A30, cp31, h1, ha.keep [3, 4, 5, 6] (by kernel_rfl), hI⟩
   ·
    rw [if_neg hb27] at h1
    refine cN (b := decide (x26 < 8)) (by simpa using hb27) ?_
    refine jZ ?_
    refine jX (jX ?_)
    refine Qn.block ?_
    have e := someS h1
    subst e
    exact jT fun a ha => ⟨x23, A24, cp25, rfl, ha.keep [3, 5] (by kernel_rfl), hI⟩
  ·
   rintro a w ⟨x19, A20, cp21, rfl, ha, hI⟩
   try dsimp only at h0
   refine Qn.of ?_ ha
   refine qT (cQ (cR [0, 1, 2, 3, 4] ?_))
   refine oP (r := [2, 3, 4]) [0, 1] (S' := [(35, .slice A9 x8.length cp10), (36, .slice A20 x19.length cp21)]) ?_
   obtain ⟨hg32, h0⟩ := guardS h0
   have hI := hI.mono (pick2 _ _ _)
   refine oC (Does.append (d := 37) (t := 52) (tx := 52) (ty := 52) (ys := x8) (zs := x19) (x := .slice A20 x19.length cp21) (by kernel_rfl) Go.Proofs.Tryz.underlying52 ty5 (by kernel_rfl) hI (src_own Go.Proofs.Tryz.underlying52 (hI.mono (pick2 _ _ _)) (one_flat _ (fun _ => rfl))) (ownS_facts (hI.mono (pick2 _ _ _))).2.2 (by unfold LIM at hg32; omega) hg32 ?_)
   intro A33 cp34 w hI
   refine oC (Does.b2sOwn (d := 38) (src := 52) (dst := 9) (xs := x8 ++ x19) (by kernel_rfl) Go.Proofs.Tryz.underlying52 Go.Proofs.Tryz.underlying5 Go.Proofs.Tryz.underlying9 hI ?_)
   refine oP (r := []) [4] (S' := [(2, .string (strOfNums (x8 ++ x19)))]) ?_
   refine oD (qT (jE ?_))
   have hI := hI.drop
   have hI := hI.drop
   have e := someS h0
   subst e
   refine qK [2] (S' := [(2, .string (strOfNums (x8 ++ x19)))]) ?_
   exact post_ret (v := .string (strOfNums (x8 ++ x19))) (fun a ha => jU (vs := [.string (strOfNums (x8 ++ x19))]) (.tmp (t := 2) (by kernel_rfl) .nil) ha (by kernel_rfl)) ⟨rfl, hI⟩
/-- cenotaph/cenotaphref02.right -/
theorem c105 (w0 w : World) (Z : Hp) (A : HP) (hI : Inv w0 Z w A) (hT : Tabs Z) (a0 : Int) (a1 : Int) (r : Int) (h0 : ref02_right a0 a1 = some r) :
  Calls prog 105 #[.int .u32 a0, iv a1] w (fun e w' => e = .returned (.int .u32 r) ∧ Inv w0 Z w' A) := by
 have e4 := calls_intro (R := (fun e w' => e = .returned (.int .u32 r) ∧ Inv w0 Z w' A)) (w := w) (args := [.int .u32 a0, iv a1]) (fn := Go.Proofs.Tryz.f105) 21 Go.Proofs.Tryz.func105 (by rfl) Go.Proofs.Tryz.ntmps105 (by kernel_rfl)
 refine e4 ?_
 clear e4
 unfold ref02_right at h0
 refine cQ (cR [0] ?_)
 refine oP (r := []) [0] (S' := [(0, .int .u32 a0), (1, iv a1)]) ?_
 refine oD (qT (cQ (cQ (cR [0] ?_))))
 refine oP (r := []) [0] (S' := [(0, .int .u32 a0), (1, iv a1), (5, iv 0)]) ?_
 refine oD (qT ?_)
 obtain ⟨r1, h1, h0⟩ := bindS h0
 refine CodT.meet1 (fun a w => ∃ (x1 : Int), x1 = r1 ∧ Fr 21 [(0, .int .u32 x1)] a ∧ Inv w0 Z w A) ?_ ?_
 ·
  refine jB ?_
  refine (fun a ha => wp_loopN (fun k a w => ∃ (x2 : Int) (x3 : Int), ref02_right.l0 a1 k x2 x3 = some r1 ∧ Fr 21 [(0, .int .u32 x2), (1, iv a1), (5, iv x3)] a ∧ Inv w0 Z w A) ?_ FU a w ⟨a0, 0, h1, ha.keep [0, 1, 5] (by kernel_rfl), hI⟩)
  clear h1 hI
  rintro k a w ⟨x2, x3, h1, ha, hI⟩
  rcases k with _ | k
  ·
   cases h1
  simp only [ref02_right.l0] at h1
  refine CodT.of ?_ ha
  refine cQ (cQ (cR [0, 1, 2] ?_))
  refine oP (r := []) [0, 1, 2] (S' := [(0, .int .u32 x2), (1, iv a1), (5, iv x3), (9, .bool (decide (x3 < a1)))]) ?_
  refine oD (qT ?_)
  by_cases hb4 : (decide (x3 < a1)) = true
  ·
   rw [if_pos hb4] at h1
   refine cY (b := decide (x3 < a1)) hb4 ?_
   refine jS (qT ?_)
   obtain ⟨r2, h2, h1⟩ := bindS h1
   refine jM (fun a w => ∃ (x5 : Int), x5 = r2 ∧ Fr 21 [(0, .int .u32 x5), (1, iv a1), (5, iv x3)] a ∧ Inv w0 Z w A) ?_ ?_
   ·
    refine jB (cQ (cR [0, 1, 2] ?_))
    refine oP (r := []) [0, 1, 2] (S' := [(0, .int .u32 x2), (1, iv a1), (5, iv x3), (6, .int .u32 (x2.tmod 2))]) ?_
    refine oD (qT (cQ (cR [0, 1, 2] ?_)))
    refine oP (r := []) [0, 1, 2] (S' := [(0, .int .u32 (wu32 (x2.tdiv 2))), (1, iv a1), (5, iv x3), (6, .int .u32 (x2.tmod 2))]) ?_
    refine oD (qT (cQ (cR [0, 1] ?_)))
    refine oP (r := []) [0, 1] (S' := [(0, .int .u32 (wu32 (x2.tdiv 2))), (1, iv a1), (5, iv x3), (17, .bool ((x2.tmod 2) == 1))]) ?_
    refine oD (qT ?_)
    by_cases hb6 : ((x2.tmod 2) == 1) = true
    ·
     rw [if_pos hb6] at h2
     refine cY (b := (x2.tmod 2) == 1) hb6 ?_
     refine cR [0, 1, 2] ?_
     refine oP (r := []) [0, 1, 2] (S' := [(0, .int .u32 (wu32 ((wu32 (x2.tdiv 2)) + 2147483648))), (1, iv a1), (5, iv x3)]) ?_
     refine oD (jN ?_)
     have e := someS h2
     subst e
     exact jT fun a ha => ⟨wu32 ((wu32 (x2.tdiv 2)) + 2147483648), rfl, ha.keep [0, 1, 5] (by kernel_rfl), hI⟩
    ·
     rw [if_neg hb6] at h2
     refine cN (b := (x2.tmod 2) == 1) (by simpa using hb6) ?_
     refine jS (jN ?_)
     have e := someS h2
     subst e
     exact jT fun a ha => ⟨wu32 (x2.tdiv 2), rfl, ha.keep [0, 1, 5] (by kernel_rfl), hI⟩
   ·
    rintro a w ⟨x5, rfl, ha, hI⟩
    try dsimp only at h1
    refine CodT.of ?_ ha
    refine cR [0, 1, 2] ?_
    refine oP (r := []) [0, 1, 2] (S' := [(0, .int .u32 x5), (1, iv a1), (5, iv (wi64 (x3 + 1)))]) ?_
    refine oD ?_
    exact jT fun a ha => ⟨k, Nat.lt_succ_self k, x5, wi64 (x3 + 1), h1, ha.keep [0, 1, 5] (by kernel_rfl), hI⟩
  ·
   rw [if_neg hb4] at h1
   refine cN (b := decide (x3 < a1)) (by simpa using hb4) ?_
   refine jZ ?_
   refine jX (jX ?_)
   refine Qn.block ?_
   have e := someS h1
   subst e
   exact jT fun a ha => ⟨x2, rfl, ha.keep [0] (by kernel_rfl), hI⟩
 ·
  rintro a w ⟨x1, rfl, ha, hI⟩
  try dsimp only at h0
  refine Qn.of ?_ ha
  refine qT (cQ (cR [0, 1] ?_))
  refine oP (r := []) [0, 1] (S' := [(4, .int .u32 x1)]) ?_
  refine oD (qT (jE ?_))
  have e := someS h0
  subst e
  refine qK [4] (S' := [(4, .int .u32 x1)]) ?_
  exact post_ret (v := .int .u32 x1) (fun a ha => jU (vs := [.int .u32 x1]) (.tmp (t := 4) (by kernel_rfl) .nil) ha (by kernel_rfl)) ⟨rfl, hI⟩
/-- cenotaph/cenotaphref02.shift -/
theorem c106 (w0 w : World) (Z : Hp) (A : HP) (hI : Inv w0 Z w A) (hT : Tabs Z) (a0 : Int) (a1 : Int) (r : Int) (h0 : ref02_shift a0 a1 = some r) :
  Calls prog 106 #[.int .u32 a0, iv a1] w (fun e w' => e = .returned (.int .u32 r) ∧ Inv w0 Z w' A) := by
 have e4 := calls_intro (R := (fun e w' => e = .returned (.int .u32 r) ∧ Inv w0 Z w' A)) (w := w) (args := [.int .u32 a0, iv a1]) (fn := Go.Proofs.Tryz.f106) 14 Go.Proofs.Tryz.func106 (by rfl) Go.Proofs.Tryz.ntmps106 (by kernel_rfl)
 refine e4 ?_
 clear e4
 unfold ref02_shift at h0
 refine cQ (cR [0] ?_)
 refine oP (r := []) [0] (S' := [(0, .int .u32 a0), (1, iv a1)]) ?_
 refine oD (qT (cQ (cQ (cR [0] ?_))))
 refine oP (r := []) [0] (S' := [(0, .int .u32 a0), (1, iv a1), (5, iv 0)]) ?_
 refine oD (qT ?_)
 obtain ⟨r1, h1, h0⟩ := bindS h0
 refine CodT.meet1 (fun a w => ∃ (x1 : Int), x1 = r1 ∧ Fr 14 [(0, .int .u32 x1)] a ∧ Inv w0 Z w A) ?_ ?_
 ·
  refine jB ?_
  refine (fun a ha => wp_loopN (fun k a w => ∃ (x2 : Int) (x3 : Int), ref02_shift.l0 a1 k x2 x3 = some r1 ∧ Fr 14 [(0, .int .u32 x2), (1, iv a1), (5, iv x3)] a ∧ Inv w0 Z w A) ?_ FU a w ⟨a0, 0, h1, ha.keep [0, 1, 5] (by kernel_rfl), hI⟩)
  clear h1 hI
  rintro k a w ⟨x2, x3, h1, ha, hI⟩
  rcases k with _ | k
  ·
   cases h1
  simp only [ref02_shift.l0] at h1
  refine CodT.of ?_ ha
  refine cQ (cQ (cR [0, 1, 2] ?_))
  refine oP (r := []) [0, 1, 2] (S' := [(0, .int .u32 x2), (1, iv a1), (5, iv x3), (8, .bool (decide (x3 < a1)))]) ?_
  refine oD (qT ?_)
  by_cases hb4 : (decide (x3 < a1)) = true
  ·
   rw [if_pos hb4] at h1
   refine cY (b := decide (x3 < a1)) hb4 ?_
   refine jS (qT (cQ (jB (cR [0, 1, 2] ?_))))
   refine oP (r := []) [0, 1, 2] (S' := [(0, .int .u32 (wu32 (x2.tdiv 2))), (1, iv a1), (5, iv x3)]) ?_
   refine oD (jN (qT (cR [0, 1, 2] ?_)))
   refine oP (r := []) [0, 1, 2] (S' := [(0, .int .u32 (wu32 (x2.tdiv 2))), (1, iv a1), (5, iv (wi64 (x3 + 1)))]) ?_
   refine oD ?_
   exact jT fun a ha => ⟨k, Nat.lt_succ_self k, wu32 (x2.tdiv 2), wi64 (x3 + 1), h1, ha.keep [0, 1, 5] (by kernel_rfl), hI⟩
  ·
   rw [if_neg hb4] at h1
   refine cN (b := decide (x3 < a1)) (by simpa using hb4) ?_
   refine jZ ?_
   refine jX (jX ?_)
   refine Qn.block ?_
   have e := someS h1
   subst e
   exact jT fun a ha => ⟨x2, rfl, ha.keep [0] (by kernel_rfl), hI⟩
 ·
  rintro a w ⟨x1, rfl, ha, hI⟩
  try dsimp only at h0
  refine Qn.of ?_ ha
  refine qT (cQ (cR [0, 1] ?_))
  refine oP (r := []) [0, 1] (S' := [(4, .int .u32 x1)]) ?_
  refine oD (qT (jE ?_))
  have e := someS h0
  subst e
  refine qK [4] (S' := [(4, .int .u32 x1)]) ?_
  exact post_ret (v := .int .u32 x1) (fun a ha => jU (vs := [.int .u32 x1]) (.tmp (t := 4) (by kernel_rfl) .nil) ha (by kernel_rfl)) ⟨rfl, hI⟩
/-- cenotaph/cenotaphref02.Of -/
theorem c86 (w0 w : World) (Z : Hp) (A : HP) (hI : Inv w0 Z w A) (hT : Tabs Z) (a0 : ByteArray) (r : (List Int)) (h0 : ref02_Of a0 = some r) :
  Calls prog 86 #[.string a0] w (fun e w' => e = .returned (.agg (q8c r).toArray) ∧ r.length = 32 ∧ Inv w0 Z w' A) := by
 have e4 := calls_intro (R := (fun e w' => e = .returned (.agg (q8c r).toArray) ∧ r.length = 32 ∧ Inv w0 Z w' A)) (w := w) (args := [.string a0]) (fn := Go.Proofs.Tryz.f86) 216 Go.Proofs.Tryz.func86 (by rfl) Go.Proofs.Tryz.ntmps86 (by kernel_rfl)
 refine e4 ?_
 clear e4
 unfold ref02_Of at h0
 refine cQ (cR [0] ?_)
 refine oC (jA (d := 2) (T := 23) (q8c q8z) (by kernel_rfl) ty23 hI (by kernel_rfl) ?_)
 intro b1 w hI
 refine oD (qT (cQ (cR [0, 1, 2] ?_)))
 obtain ⟨y3, hc2, h0⟩ := bindS h0
 try dsimp only at h0
 refine oC (jC (d := some 24) (n := 102) (vs := []) (by kernel_rfl) en102 (c102 w0 w _ _ hI hT _ hc2) ?_)
 rintro e w ⟨rfl, hl4, hI⟩
 refine ⟨_, rfl, ?_⟩
 refine oC (jA (d := 3) (T := 100) (cA (Value.int .u32) (List.replicate 8 (0 : Int))) (by kernel_rfl) ty100 hI (by kernel_rfl) ?_)
 intro b5 w hI
 refine oC (jV (T := 100) (b := b5) (n := 8) (xs := (List.replicate 8 (0 : Int))) (ys := y3) (by kernel_rfl) ty100 hI (fun _ => rfl) (by kernel_rfl) hl4 ?_)
 intro w hI
 refine oD (qT (cQ (cR [0, 1, 2] ?_)))
 obtain ⟨y7, hc6, h0⟩ := bindS h0
 try dsimp only at h0
 refine oC (jC (d := some 25) (n := 103) (vs := []) (by kernel_rfl) en103 (c103 w0 w _ _ hI hT _ hc6) ?_)
 rintro e w ⟨rfl, hl8, hI⟩
 refine ⟨_, rfl, ?_⟩
 refine oC (jA (d := 4) (T := 101) (cA (Value.int .u32) (List.replicate 64 (0 : Int))) (by kernel_rfl) ty101 hI (by kernel_rfl) ?_)
 intro b9 w hI
 refine oC (jV (T := 101) (b := b9) (n := 64) (xs := (List.replicate 64 (0 : Int))) (ys := y7) (by kernel_rfl) ty101 hI (fun _ => rfl) (by kernel_rfl) hl8 ?_)
 intro w hI
 refine oD (qT (cQ (cR [0, 1, 2] ?_)))
 refine oP (r := [1, 2]) [0] (S' := [(2, pb b1), (3, pb b5), (4, pb b9), (26, .string a0)]) ?_
 obtain ⟨y11, hc10, h0⟩ := bindS h0
 try dsimp only at h0
 refine oC (jC (d := some 27) (n := 104) (vs := [.string a0]) (by kernel_rfl) en104 (c104 w0 w _ _ hI hT a0 _ hc10) ?_)
 rintro e w ⟨rfl, hI⟩
 refine ⟨_, rfl, ?_⟩
 refine oP (r := []) [2] (S' := [(2, pb b1), (3, pb b5), (4, pb b9), (5, .string y11)]) ?_
 refine oD (qT (cQ (cQ (cR [0] ?_))))
 refine oP (r := []) [0] (S' := [(2, pb b1), (3, pb b5), (4, pb b9), (5, .string y11), (6, iv 0)]) ?_
 refine oD (qT ?_)
 obtain ⟨r1, h1, h0⟩ := bindS h0
 refine CodT.meet1 (fun a w => ∃ (x12 : (List Int)), x12 = r1 ∧ Fr 216 [(2, pb b1), (3, pb b5)] a ∧ Inv w0 Z w (star (pt b5 (.cells (cA (Value.int .u32) x12).toArray 100 (0, 0))) (star (pt b1 (.cells (q8c q8z).toArray 23 (0, 0))) A)) ∧ x12.length = 8) ?_ ?_
 ·
  refine jB ?_
  refine (fun a ha => wp_loopN (fun k a w => ∃ (x14 : Int) (x15 : (List Int)), ref02_Of.l0 y11 y7 k x14 x15 = some r1 ∧ Fr 216 [(2, pb b1), (3, pb b5), (4, pb b9), (5, .string y11), (6, iv x14)] a ∧ Inv w0 Z w (star (pt b9 (.cells (cA (Value.int .u32) y7).toArray 101 (0, 0))) (star (pt b5 (.cells (cA (Value.int .u32) x15).toArray 100 (0, 0))) (star (pt b1 (.cells (q8c q8z).toArray 23 (0, 0))) A))) ∧ x15.length = 8) ?_ FU a w ⟨0, y3, h1, ha.keep [2, 3, 4, 5, 6] (by kernel_rfl), hI, hl4⟩)
  clear h1 hI
  rintro k a w ⟨x14, x15, h1, ha, hI, hl16⟩
  rcases k with _ | k
  ·
   cases h1
  simp only [ref02_Of.l0] at h1
  refine CodT.of ?_ ha
  refine cQ (cQ (cR [0, 1, 2, 3] ?_))
  refine oP (r := []) [0, 1, 2, 3] (S' := [(2, pb b1), (3, pb b5), (4, pb b9), (5, .string y11), (6, iv x14), (31, .bool (decide (x14 < (y11.size : Int))))]) ?_
  refine oD (qT ?_)
  by_cases hb17 : (decide (x14 < (y11.size : Int))) = true
  ·
   rw [if_pos hb17] at h1
   refine cY (b := decide (x14 < (y11.size : Int))) hb17 ?_
   refine jS (qT (cQ (jB (cQ (cR [0] ?_)))))
   refine oC (jA (d := 7) (T := 101) (cA (Value.int .u32) (List.replicate 64 (0 : Int))) (by kernel_rfl) ty101 hI (by kernel_rfl) ?_)
   intro b18 w hI
   refine oD (qT (cQ (cQ (cR [0] ?_))))
   refine oP (r := []) [0] (S' := [(2, pb b1), (3, pb b5), (4, pb b9), (5, .string y11), (6, iv x14), (7, pb b18), (8, iv 0)]) ?_
   refine oD (qT ?_)
   obtain ⟨r2, h2, h1⟩ := bindS h1
   refine CodT.meet1 (fun a w => ∃ (x19 : (List Int)), x19 = r2 ∧ Fr 216 [(2, pb b1), (3, pb b5), (4, pb b9), (5, .string y11), (6, iv x14), (7, pb b18)] a ∧ Inv w0 Z w (star (pt b18 (.cells (cA (Value.int .u32) x19).toArray 101 (0, 0))) (star (pt b9 (.cells (cA (Value.int .u32) y7).toArray 101 (0, 0))) (star (pt b5 (.cells (cA (Value.int .u32) x15).toArray 100 (0, 0))) (star (pt b1 (.cells (q8c q8z).toArray 23 (0, 0))) A)))) ∧ x19.length = 64) ?_ ?_
   ·
    refine jB ?_
    refine (fun a ha => wp_loopN (fun k a w => ∃ (x21 : Int) (x22 : (List Int)), ref02_Of.l1 x14 y11 k x21 x22 = some r2 ∧ Fr 216 [(2, pb b1), (3, pb b5), (4, pb b9), (5, .string y11), (6, iv x14), (7, pb b18), (8, iv x21)] a ∧ Inv w0 Z w (star (pt b18 (.cells (cA (Value.int .u32) x22).toArray 101 (0, 0))) (star (pt b9 (.cells (cA (Value.int .u32) y7).toArray 101 (0, 0))) (star (pt b5 (.cells (cA (Value.int .u32) x15).toArray 100 (0, 0))) (star (pt b1 (.cells (q8c q8z).toArray 23 (0, 0))) A)))) ∧ x22.length = 64) ?_ FU a w ⟨0, (List.replicate 64 (0 : Int)), h2, ha.keep [2, 3, 4, 5, 6, 7, 8] (by kernel_rfl), hI, (by kernel_rfl)⟩)
    clear h2 hI
    rintro k a w ⟨x21, x22, h2, ha, hI, hl23⟩
    rcases k with _ | k
    ·
     cases h2
    simp only [ref02_Of.l1] at h2
    refine CodT.of ?_ ha
    refine cQ (cQ (cR [0, 1] ?_))
    refine oP (r := []) [0, 1] (S' := [(2, pb b1), (3, pb b5), (4, pb b9), (5, .string y11), (6, iv x14), (7, pb b18), (8, iv x21), (35, .bool (decide (x21 < 64)))]) ?_
    refine oD (qT ?_)
    by_cases hb24 : (decide (x21 < 64)) = true
    ·
     rw [if_pos hb24] at h2
     refine cY (b := decide (x21 < 64)) hb24 ?_
     refine jS (qT ?_)
     obtain ⟨r3, h3, h2⟩ := bindS h2
     refine jM (fun a w => ∃ (x25 : (List Int)), x25 = r3 ∧ Fr 216 [(2, pb b1), (3, pb b5), (4, pb b9), (5, .string y11), (6, iv x14), (7, pb b18), (8, iv x21)] a ∧ Inv w0 Z w (star (pt b18 (.cells (cA (Value.int .u32) x25).toArray 101 (0, 0))) (star (pt b9 (.cells (cA (Value.int .u32) y7).toArray 101 (0, 0))) (star (pt b5 (.cells (cA (Value.int .u32) x15).toArray 100 (0, 0))) (star (pt b1 (.cells (q8c q8z).toArray 23 (0, 0))) A)))) ∧ x25.length = 64) ?_ ?_
     ·
      refine jB (cQ (cQ (cR [0, 1] ?_)))
      refine oP (r := []) [0, 1] (S' := [(2, pb b1), (3, pb b5), (4, pb b9), (5, .string y11), (6, iv x14), (7, pb b18), (8, iv x21), (39, .bool (decide (x21 < 16)))]) ?_
      refine oD (qT ?_)
      by_cases hb27 : (decide (x21 < 16)) = true
      ·
       rw [if_pos hb27] at h3
       refine cY (b := decide (x21 < 16)) hb27 ?_
       refine cQ (cQ (cR [0] ?_))
       refine oP (r := []) [0] (S' := [(2, pb b1), (3, pb b5), (4, pb b9), (5, .string y11), (6, iv x14), (7, pb b18), (8, iv x21), (9, iv 0)]) ?_
       refine oD (qT ?_)
       obtain ⟨r4, h4, h3⟩ := bindS h3
       refine CodT.meet1 (fun a w => ∃ (x28 : (List Int)), x28 = r4 ∧ Fr 216 [(2, pb b1), (3, pb b5), (4, pb b9), (5, .string y11), (6, iv x14), (7, pb b18), (8, iv x21)] a ∧ Inv w0 Z w (star (pt b18 (.cells (cA (Value.int .u32) x28).toArray 101 (0, 0))) (star (pt b9 (.cells (cA (Value.int .u32) y7).toArray 101 (0, 0))) (star (pt b5 (.cells (cA (Value.int .u32) x15).toArray 100 (0, 0))) (star (pt b1 (.cells (q8c q8z).toArray 23 (0, 0))) A)))) ∧ x28.length = 64) ?_ ?_
       ·
        refine jB ?_
        refine (fun a ha => wp_loopN (fun k a w => ∃ (x30 : Int) (x31 : (List Int)), ref02_Of.l2 x21 x14 y11 k x30 x31 = some r4 ∧ Fr 216 [(2, pb b1), (3, pb b5), (4, pb b9), (5, .string y11), (6, iv x14), (7, pb b18), (8, iv x21), (9, iv x30)] a ∧ Inv w0 Z w (star (pt b18 (.cells (cA (Value.int .u32) x31).toArray 101 (0, 0))) (star (pt b9 (.cells (cA (Value.int .u32) y7).toArray 101 (0, 0))) (star (pt b5 (.cells (cA (Value.int .u32) x15).toArray 100 (0, 0))) (star (pt b1 (.cells (q8c q8z).toArray 23 (0, 0))) A)))) ∧ x31.length = 64) ?_ FU a w ⟨0, x22, h4, ha.keep [2, 3, 4, 5, 6, 7, 8, 9] (by kernel_rfl), hI, hl23⟩)
        clear h4 hI
        rintro k a w ⟨x30, x31, h4, ha, hI, hl32⟩
        rcases k with _ | k
        ·
         cases h4
        simp only [ref02_Of.l2] at h4
        refine CodT.of ?_ ha
        refine cQ (cQ (cR [0, 1] ?_))
        refine oP (r := []) [0, 1] (S' := [(2, pb b1), (3, pb b5), (4, pb b9), (5, .string y11), (6, iv x14), (7, pb b18), (8, iv x21), (9, iv x30), (41, .bool (decide (x30 < 4)))]) ?_
        refine oD (qT ?_)
        by_cases hb33 : (decide (x30 < 4)) = true
        ·
         rw [if_pos hb33] at h4
         refine cY (b := decide (x30 < 4)) hb33 ?_
         refine jS (qT (cQ (jB ?_)))
         refine CodT.drawI (n := 17) [16] (by kernel_rfl) (by kernel_rfl) hI ?_
         intro w hI
         refine gP 0 44 (iv x21) ?_
         refine gP 1 45 (iv x21) ?_
         refine gP 5 49 (.string y11) ?_
         refine gP 6 50 (iv x14) ?_
         refine gP 7 51 (iv x21) ?_
         refine gP 8 52 (iv (wi64 (4 * x21))) ?_
         refine gP 9 53 (iv (wi64 (x14 + (wi64 (4 * x21))))) ?_
         refine gP 10 54 (iv x30) ?_
         refine gP 11 55 (iv (wi64 ((wi64 (x14 + (wi64 (4 * x21)))) + x30))) ?_
         obtain ⟨hg34, h4⟩ := guardS h4
         refine gR (i := 2) 2 (Yl.indexArr (d := 46) (T := 101) (k := .i64) (j := x21) (g := b18) (o := 0) (by kernel_rfl) Go.Proofs.Tryz.underlying101 ty99 hg34.1 hg34.2) hI ?_
         refine gR (i := 3) 2 (jL (d := 47) (T := 99) (v := .int .u32 (gt x31 x21)) (by kernel_rfl) (ldB ty99 (l := cA (Value.int .u32) x31) (o := 0 + x21.toNat * 1) (v := .int .u32 (gt x31 x21)) (ent_refl _) (arr_get _ _ hg34.1 (by have := And.intro hl32 hg34.2; omega)))) hI ?_
         refine gP 4 48 (.int .u32 (wu32 ((gt x31 x21) * 256))) ?_
         obtain ⟨hg35, h4⟩ := guardS h4
         refine gR (i := 12) 2 (Yl.indexStr (d := 56) (T := 9) (k := .i64) (j := wi64 ((wi64 (x14 + (wi64 (4 * x21)))) + x30)) (s := y11) (by kernel_rfl) Go.Proofs.Tryz.underlying9 hg35.1 hg35.2) hI ?_
         refine gP 13 57 (.int .u32 (wu32 (bt y11 (wi64 ((wi64 (x14 + (wi64 (4 * x21)))) + x30))))) ?_
         refine gP 14 58 (.int .u32 (wu32 ((wu32 ((gt x31 x21) * 256)) + (wu32 (bt y11 (wi64 ((wi64 (x14 + (wi64 (4 * x21)))) + x30))))))) ?_
         obtain ⟨hg36, h4⟩ := guardS h4
         refine gR (i := 15) 2 (Yl.indexArr (d := 59) (T := 101) (k := .i64) (j := x21) (g := b18) (o := 0) (by kernel_rfl) Go.Proofs.Tryz.underlying101 ty99 hg36.1 hg36.2) hI ?_
         refine jO (i := 16) (by kernel_rfl) (Does.storeArr (e := (Value.int .u32)) (xs := x31) (u := wu32 ((wu32 ((gt x31 x21) * 256)) + (wu32 (bt y11 (wi64 ((wi64 (x14 + (wi64 (4 * x21)))) + x30)))))) (T := 99) (b := b18) (j := x21) (by kernel_rfl) ty99 hI (by kernel_rfl) (by kernel_rfl) hg36.1 (by have := And.intro hl32 hg36.2; omega) ?_)
         intro w hI
         refine ⟨fun h => absurd h (by decide), ?_⟩
         refine jD (by kernel_rfl) ?_
         refine jN (qT (cR [0, 1, 2] ?_))
         refine oP (r := []) [0, 1, 2] (S' := [(2, pb b1), (3, pb b5), (4, pb b9), (5, .string y11), (6, iv x14), (7, pb b18), (8, iv x21), (9, iv (wi64 (x30 + 1)))]) ?_
         refine oD ?_
         exact jT fun a ha => ⟨k, Nat.lt_succ_self k, wi64 (x30 + 1), st x31 x21 (wu32 ((wu32 ((gt x31 x21) * 256)) + (wu32 (bt y11 (wi64 ((wi64 (x14 + (wi64 (4 * x21)))) + x30)))))), h4, ha.keep [2, 3, 4, 5, 6, 7, 8, 9] (by kernel_rfl), hI, ((st_length _ _ _).trans hl32)⟩
        ·
         rw [if_neg hb33] at h4
         refine cN (b := decide (x30 < 4)) (by simpa using hb33) ?_
         refine jZ ?_
         refine jX (jX ?_)
         refine Qn.block ?_
         have e := someS h4
         subst e
         exact jT fun a ha => ⟨x31, rfl, ha.keep [2, 3, 4, 5, 6, 7, 8] (by kernel_rfl), hI, hl32⟩
       ·
        rintro a w ⟨x28, rfl, ha, hI, hl29⟩
        try dsimp only at h3
        refine Qn.of ?_ ha
        refine qT ?_
        refine jZ ?_
        refine jX ?_
        refine Qn.block ?_
        have e := someS h3
        subst e
        exact jT fun a ha => ⟨x28, rfl, ha.keep [2, 3, 4, 5, 6, 7, 8] (by kernel_rfl), hI, hl29⟩
      ·
       rw [if_neg hb27] at h3
       refine cN (b := decide (x21 < 16)) (by simpa using hb27) ?_
       refine jS (qT (cQ (cR [0, 1, 2, 3, 4] ?_)))
       refine oP (r := [2, 3, 4]) [0, 1] (S' := [(2, pb b1), (3, pb b5), (4, pb b9), (5, .string y11), (6, iv x14), (7, pb b18), (8, iv x21), (61, iv (wi64 (x21 - 15)))]) ?_
       obtain ⟨hg37, h3⟩ := guardS h3
       refine oC (jY (Yl.indexArr (d := 62) (T := 101) (k := .i64) (j := wi64 (x21 - 15)) (g := b18) (o := 0) (by kernel_rfl) Go.Proofs.Tryz.underlying101 ty99 hg37.1 hg37.2) hI ?_)
       refine oC (jY (jL (d := 63) (T := 99) (v := .int .u32 (gt x22 (wi64 (x21 - 15)))) (by kernel_rfl) (ldB ty99 (l := cA (Value.int .u32) x22) (o := 0 + (wi64 (x21 - 15)).toNat * 1) (v := .int .u32 (gt x22 (wi64 (x21 - 15)))) (ent_refl _) (arr_get _ _ hg37.1 (by have := And.intro hl23 hg37.2; omega)))) hI ?_)
       refine oP (r := []) [4] (S' := [(2, pb b1), (3, pb b5), (4, pb b9), (5, .string y11), (6, iv x14), (7, pb b18), (8, iv x21), (10, .int .u32 (gt x22 (wi64 (x21 - 15))))]) ?_
       refine oD (qT (cQ (cR [0, 1, 2, 3, 4] ?_)))
       refine oP (r := [2, 3, 4]) [0, 1] (S' := [(2, pb b1), (3, pb b5), (4, pb b9), (5, .string y11), (6, iv x14), (7, pb b18), (8, iv x21), (10, .int .u32 (gt x22 (wi64 (x21 - 15)))), (65, iv (wi64 (x21 - 2)))]) ?_
       obtain ⟨hg38, h3⟩ := guardS h3
       refine oC (jY (Yl.indexArr (d := 66) (T := 101) (k := .i64) (j := wi64 (x21 - 2)) (g := b18) (o := 0) (by kernel_rfl) Go.Proofs.Tryz.underlying101 ty99 hg38.1 hg38.2) hI ?_)
       refine oC (jY (jL (d := 67) (T := 99) (v := .int .u32 (gt x22 (wi64 (x21 - 2)))) (by kernel_rfl) (ldB ty99 (l := cA (Value.int .u32) x22) (o := 0 + (wi64 (x21 - 2)).toNat * 1) (v := .int .u32 (gt x22 (wi64 (x21 - 2)))) (ent_refl _) (arr_get _ _ hg38.1 (by have := And.intro hl23 hg38.2; omega)))) hI ?_)
       refine oP (r := []) [4] (S' := [(2, pb b1), (3, pb b5), (4, pb b9), (5, .string y11), (6, iv x14), (7, pb b18), (8, iv x21), (10, .int .u32 (gt x22 (wi64 (x21 - 15)))), (11, .int .u32 (gt x22 (wi64 (x21 - 2))))]) ?_
       refine oD (qT ?_)
       refine CodT.drawI (n := 30) [29] (by kernel_rfl) (by kernel_rfl) hI ?_
       intro w hI
       refine gP 0 68 (iv x21) ?_
       refine gP 1 69 (.int .u32 (gt x22 (wi64 (x21 - 2)))) ?_
       refine gP 3 71 (.int .u32 (gt x22 (wi64 (x21 - 2)))) ?_
       refine gP 6 74 (.int .u32 (gt x22 (wi64 (x21 - 2)))) ?_
       refine gP 9 77 (iv x21) ?_
       refine gP 10 78 (iv (wi64 (x21 - 7))) ?_
       refine gP 14 82 (.int .u32 (gt x22 (wi64 (x21 - 15)))) ?_
       refine gP 16 84 (.int .u32 (gt x22 (wi64 (x21 - 15)))) ?_
       refine gP 19 87 (.int .u32 (gt x22 (wi64 (x21 - 15)))) ?_
       refine gP 23 91 (iv x21) ?_
       refine gP 24 92 (iv (wi64 (x21 - 16))) ?_
       obtain ⟨hg39, h3⟩ := guardS h3
       refine gR (i := 11) 2 (Yl.indexArr (d := 79) (T := 101) (k := .i64) (j := wi64 (x21 - 7)) (g := b18) (o := 0) (by kernel_rfl) Go.Proofs.Tryz.underlying101 ty99 hg39.1 hg39.2) hI ?_
       refine gR (i := 12) 2 (jL (d := 80) (T := 99) (v := .int .u32 (gt x22 (wi64 (x21 - 7)))) (by kernel_rfl) (ldB ty99 (l := cA (Value.int .u32) x22) (o := 0 + (wi64 (x21 - 7)).toNat * 1) (v := .int .u32 (gt x22 (wi64 (x21 - 7)))) (ent_refl _) (arr_get _ _ hg39.1 (by have := And.intro hl23 hg39.2; omega)))) hI ?_
       obtain ⟨hg40, h3⟩ := guardS h3
       refine gR (i := 25) 2 (Yl.indexArr (d := 93) (T := 101) (k := .i64) (j := wi64 (x21 - 16)) (g := b18) (o := 0) (by kernel_rfl) Go.Proofs.Tryz.underlying101 ty99 hg40.1 hg40.2) hI ?_
       refine gR (i := 26) 2 (jL (d := 94) (T := 99) (v := .int .u32 (gt x22 (wi64 (x21 - 16)))) (by kernel_rfl) (ldB ty99 (l := cA (Value.int .u32) x22) (o := 0 + (wi64 (x21 - 16)).toNat * 1) (v := .int .u32 (gt x22 (wi64 (x21 - 16)))) (ent_refl _) (arr_get _ _ hg40.1 (by have := And.intro hl23 hg40.2; omega)))) hI ?_
       obtain ⟨y42, hc41, h3⟩ := bindS h3
       try dsimp only at h3
       refine jO (i := 2) (by kernel_rfl) (jC (d := some 70) (n := 105) (vs := [.int .u32 (gt x22 (wi64 (x21 - 2))), iv 17]) (by kernel_rfl) en105 (c105 w0 w _ _ hI hT (gt x22 (wi64 (x21 - 2))) 17 _ hc41) ?_)
       rintro e w ⟨rfl, hI⟩
       refine ⟨_, rfl, ?_⟩
       refine ⟨fun _ _ => hI, ?_⟩
       obtain ⟨y44, hc43, h3⟩ := bindS h3
       try dsimp only at h3
       refine jO (i := 4) (by kernel_rfl) (jC (d := some 72) (n := 105) (vs := [.int .u32 (gt x22 (wi64 (x21 - 2))), iv 19]) (by kernel_rfl) en105 (c105 w0 w _ _ hI hT (gt x22 (wi64 (x21 - 2))) 19 _ hc43) ?_)
       rintro e w ⟨rfl, hI⟩
       refine ⟨_, rfl, ?_⟩
       refine ⟨fun _ _ => hI, ?_⟩
       refine gP 5 73 (.int .u32 (bXor .u32 y42 y44)) ?_
       obtain ⟨y46, hc45, h3⟩ := bindS h3
       try dsimp only at h3
       refine jO (i := 7) (by kernel_rfl) (jC (d := some 75) (n := 106) (vs := [.int .u32 (gt x22 (wi64 (x21 - 2))), iv 10]) (by kernel_rfl) en106 (c106 w0 w _ _ hI hT (gt x22 (wi64 (x21 - 2))) 10 _ hc45) ?_)
       rintro e w ⟨rfl, hI⟩
       refine ⟨_, rfl, ?_⟩
       refine ⟨fun _ _ => hI, ?_⟩
       refine gP 8 76 (.int .u32 (bXor .u32 (bXor .u32 y42 y44) y46)) ?_
       refine gP 13 81 (.int .u32 (wu32 ((bXor .u32 (bXor .u32 y42 y44) y46) + (gt x22 (wi64 (x21 - 7)))))) ?_
       obtain ⟨y48, hc47, h3⟩ := bindS h3
       try dsimp only at h3
       refine jO (i := 15) (by kernel_rfl) (jC (d := some 83) (n := 105) (vs := [.int .u32 (gt x22 (wi64 (x21 - 15))), iv 7]) (by kernel_rfl) en105 (c105 w0 w _ _ hI hT (gt x22 (wi64 (x21 - 15))) 7 _ hc47) ?_)
       rintro e w ⟨rfl, hI⟩
       refine ⟨_, rfl, ?_⟩
       refine ⟨fun _ _ => hI, ?_⟩
       obtain ⟨y50, hc49, h3⟩ := bindS h3
       try dsimp only at h3
       refine jO (i := 17) (by kernel_rfl) (jC (d := some 85) (n := 105) (vs := [.int .u32 (gt x22 (wi64 (x21 - 15))), iv 18]) (by kernel_rfl) en105 (c105 w0 w _ _ hI hT (gt x22 (wi64 (x21 - 15))) 18 _ hc49) ?_)
       rintro e w ⟨rfl, hI⟩
       refine ⟨_, rfl, ?_⟩
       refine ⟨fun _ _ => hI, ?_⟩
       refine gP 18 86 (.int .u32 (bXor .u32 y48 y50)) ?_
       obtain ⟨y52, hc51, h3⟩ := bindS h3
       try dsimp only at h3
       refine jO (i := 20) (by kernel_rfl) (jC (d := some 88) (n := 106) (vs := [.int .u32 (gt x22 (wi64 (x21 - 15))), iv 3]) (by kernel_rfl) en106 (c106 w0 w _ _ hI hT (gt x22 (wi64 (x21 - 15))) 3 _ hc51) ?_)
       rintro e w ⟨rfl, hI⟩
       refine ⟨_, rfl, ?_⟩
       refine ⟨fun _ _ => hI, ?_⟩
       refine gP 21 89 (.int .u32 (bXor .u32 (bXor .u32 y48 y50) y52)) ?_
       refine gP 22 90 (.int .u32 (wu32 ((wu32 ((bXor .u32 (bXor .u32 y42 y44) y46) + (gt x22 (wi64 (x21 - 7))))) + (bXor .u32 (bXor .u32 y48 y50) y52)))) ?_
       refine gP 27 95 (.int .u32 (wu32 ((wu32 ((wu32 ((bXor .u32 (bXor .u32 y42 y44) y46) + (gt x22 (wi64 (x21 - 7))))) + (bXor .u32 (bXor .u32 y48 y50) y52))) + (gt x22 (wi64 (x21 - 16)))))) ?_
       obtain ⟨hg53, h3⟩ := guardS h3
       refine gR (i := 28) 2 (Yl.indexArr (d := 96) (T := 101) (k := .i64) (j := x21) (g := b18) (o := 0) (by kernel_rfl) Go.Proofs.Tryz.underlying101 ty99 hg53.1 hg53.2) hI ?_
       refine jO (i := 29) (by kernel_rfl) (Does.storeArr (e := (Value.int .u32)) (xs := x22) (u := wu32 ((wu32 ((wu32 ((bXor .u32 (bXor .u32 y42 y44) y46) + (gt x22 (wi64 (x21 - 7))))) + (bXor .u32 (bXor .u32 y48 y50) y52))) + (gt x22 (wi64 (x21 - 16))))) (T := 99) (b := b18) (j := x21) (by kernel_rfl) ty99 hI (by kernel_rfl) (by kernel_rfl) hg53.1 (by have := And.intro hl23 hg53.2; omega) ?_)
       intro w hI
       refine ⟨fun h => absurd h (by decide), ?_⟩
       refine jD (by kernel_rfl) ?_
       refine jN ?_
       have e := someS h3
       subst e
       exact jT fun a ha => ⟨st x22 x21 (wu32 ((wu32 ((wu32 ((bXor .u32 (bXor .u32 y42 y44) y46) + (gt x22 (wi64 (x21 - 7))))) + (bXor .u32 (bXor .u32 y48 y50) y52))) + (gt x22 (wi64 (x21 - 16))))), rfl, ha.keep [2, 3, 4, 5, 6, 7, 8] (by kernel_rfl), hI, ((st_length _ _ _).trans hl23)⟩
     ·
      rintro a w ⟨x25, rfl, ha, hI, hl26⟩
      try dsimp only at h2
      refine CodT.of ?_ ha
      refine cR [0, 1, 2] ?_
      refine oP (r := []) [0, 1, 2] (S' := [(2, pb b1), (3, pb b5), (4, pb b9), (5, .string y11), (6, iv x14), (7, pb b18), (8, iv (wi64 (x21 + 1)))]) ?_
      refine oD ?_
      exact jT fun a ha => ⟨k, Nat.lt_succ_self k, wi64 (x21 + 1), x25, h2, ha.keep [2, 3, 4, 5, 6, 7, 8] (by kernel_rfl), hI, hl26⟩
    ·
     rw [if_neg hb24] at h2
     refine cN (b := decide (x21 < 64)) (by simpa using hb24) ?_
     refine jZ ?_
     refine jX (jX ?_)
     refine Qn.block ?_
     have e := someS h2
     subst e
     exact jT fun a ha => ⟨x22, rfl, ha.keep [2, 3, 4, 5, 6, 7] (by kernel_rfl), hI, hl23⟩
   ·
    rintro a w ⟨x19, rfl, ha, hI, hl20⟩
    try dsimp only at h1
    refine Qn.of ?_ ha
    refine qT (cQ (cR [0, 1, 2] ?_))
    refine oC (jY (jL (d := 97) (T := 100) (v := .agg (cA (Value.int .u32) x15).toArray) (by kernel_rfl) (ldBN ty100 (l := cA (Value.int .u32) x15) (o := 0) (cs := cA (Value.int .u32) x15) (pick3 _ _ _ _) ((cA_length _ _).trans hl16) (whole _ _ ((cA_length _ _).trans hl16)))) hI ?_)
    refine oC (jA (d := 12) (T := 100) (cA (Value.int .u32) (List.replicate 8 (0 : Int))) (by kernel_rfl) ty100 hI (by kernel_rfl) ?_)
    intro b54 w hI
    refine oC (jV (T := 100) (b := b54) (n := 8) (xs := (List.replicate 8 (0 : Int))) (ys := x15) (by kernel_rfl) ty100 hI (fun _ => rfl) (by kernel_rfl) hl16 ?_)
    intro w hI
    refine oD (qT (cQ (cQ (cR [0] ?_))))
    refine oP (r := []) [0] (S' := [(2, pb b1), (3, pb b5), (4, pb b9), (5, .string y11), (6, iv x14), (7, pb b18), (12, pb b54), (13, iv 0)]) ?_
    refine oD (qT ?_)
    obtain ⟨r2, h2, h1⟩ := bindS h1
    refine CodT.meet1 (fun a w => ∃ (x55 : (List Int)), x55 = r2 ∧ Fr 216 [(2, pb b1), (3, pb b5), (4, pb b9), (5, .string y11), (6, iv x14), (12, pb b54)] a ∧ Inv w0 Z w (star (pt b54 (.cells (cA (Value.int .u32) x55).toArray 100 (0, 0))) (star (pt b9 (.cells (cA (Value.int .u32) y7).toArray 101 (0, 0))) (star (pt b5 (.cells (cA (Value.int .u32) x15).toArray 100 (0, 0))) (star (pt b1 (.cells (q8c q8z).toArray 23 (0, 0))) A)))) ∧ x55.length = 8) ?_ ?_
    ·
     refine jB ?_
     refine (fun a ha => wp_loopN (fun k a w => ∃ (x57 : Int) (x58 : (List Int)), ref02_Of.l3 y7 x19 k x57 x58 = some r2 ∧ Fr 216 [(2, pb b1), (3, pb b5), (4, pb b9), (5, .string y11), (6, iv x14), (7, pb b18), (12, pb b54), (13, iv x57)] a ∧ Inv w0 Z w (star (pt b54 (.cells (cA (Value.int .u32) x58).toArray 100 (0, 0))) (star (pt b18 (.cells (cA (Value.int .u32) x19).toArray 101 (0, 0))) (star (pt b9 (.cells (cA (Value.int .u32) y7).toArray 101 (0, 0))) (star (pt b5 (.cells (cA (Value.int .u32) x15).toArray 100 (0, 0))) (star (pt b1 (.cells (q8c q8z).toArray 23 (0, 0))) A))))) ∧ x58.length = 8) ?_ FU a w ⟨0, x15, h2, ha.keep [2, 3, 4, 5, 6, 7, 12, 13] (by kernel_rfl), hI, hl16⟩)
     clear h2 hI
     rintro k a w ⟨x57, x58, h2, ha, hI, hl59⟩
     rcases k with _ | k
     ·
      cases h2
     simp only [ref02_Of.l3] at h2
     refine CodT.of ?_ ha
     refine cQ (cQ (cR [0, 1] ?_))
     refine oP (r := []) [0, 1] (S' := [(2, pb b1), (3, pb b5), (4, pb b9), (5, .string y11), (6, iv x14), (7, pb b18), (12, pb b54), (13, iv x57), (99, .bool (decide (x57 < 64)))]) ?_
     refine oD (qT ?_)
     by_cases hb60 : (decide (x57 < 64)) = true
     ·
      rw [if_pos hb60] at h2
      refine cY (b := decide (x57 < 64)) hb60 ?_
      refine jS (qT (cQ (jB (cQ (cR [0, 1, 2] ?_)))))
      refine oP (r := [1, 2]) [0] (S' := [(2, pb b1), (3, pb b5), (4, pb b9), (5, .string y11), (6, iv x14), (7, pb b18), (12, pb b54), (13, iv x57), (102, .pointer (some ⟨b54, 4, none⟩))]) ?_
      refine oC (jY (jL (d := 103) (T := 99) (v := .int .u32 (gt x58 4)) (by kernel_rfl) (ldB ty99 (l := cA (Value.int .u32) x58) (o := 4) (v := .int .u32 (gt x58 4)) (ent_refl _) (arr_getC _ _ 4 hl59 (by kernel_rfl)))) hI ?_)
      refine oP (r := []) [2] (S' := [(2, pb b1), (3, pb b5), (4, pb b9), (5, .string y11), (6, iv x14), (7, pb b18), (12, pb b54), (13, iv x57), (14, .int .u32 (gt x58 4))]) ?_
      refine oD (qT (cQ (cR [0, 1, 2] ?_)))
      refine oP (r := [1, 2]) [0] (S' := [(2, pb b1), (3, pb b5), (4, pb b9), (5, .string y11), (6, iv x14), (7, pb b18), (12, pb b54), (13, iv x57), (14, .int .u32 (gt x58 4)), (104, pb b54)]) ?_
      refine oC (jY (jL (d := 105) (T := 99) (v := .int .u32 (gt x58 0)) (by kernel_rfl) (ldB ty99 (l := cA (Value.int .u32) x58) (o := 0) (v := .int .u32 (gt x58 0)) (ent_refl _) (arr_getC _ _ 0 hl59 (by kernel_rfl)))) hI ?_)
      refine oP (r := []) [2] (S' := [(2, pb b1), (3, pb b5), (4, pb b9), (5, .string y11), (6, iv x14), (7, pb b18), (12, pb b54), (13, iv x57), (14, .int .u32 (gt x58 4)), (15, .int .u32 (gt x58 0))]) ?_
      refine oD (qT (cQ (cR [0, 1, 2] ?_)))
      refine oP (r := []) [0, 1, 2] (S' := [(2, pb b1), (3, pb b5), (4, pb b9), (5, .string y11), (6, iv x14), (7, pb b18), (12, pb b54), (13, iv x57), (14, .int .u32 (gt x58 4)), (15, .int .u32 (gt x58 0)), (16, .int .u32 (wu32 (4294967295 - (gt x58 4))))]) ?_
      refine oD (qT (cQ ?_))
      refine CodT.drawI (n := 30) [] (by kernel_rfl) (by kernel_rfl) hI ?_
      intro w hI
      refine gP 0 108 (.pointer (some ⟨b54, 7, none⟩)) ?_
      refine gP 2 110 (.int .u32 (gt x58 4)) ?_
      refine gP 4 112 (.int .u32 (gt x58 4)) ?_
      refine gP 7 115 (.int .u32 (gt x58 4)) ?_
      refine gP 11 119 (.int .u32 (gt x58 4)) ?_
      refine gP 12 120 (.pointer (some ⟨b54, 5, none⟩)) ?_
      refine gP 15 123 (.int .u32 (wu32 (4294967295 - (gt x58 4)))) ?_
      refine gP 16 124 (.pointer (some ⟨b54, 6, none⟩)) ?_
      refine gP 21 129 (iv x57) ?_
      refine gP 25 133 (iv x57) ?_
      refine gR (i := 1) 2 (jL (d := 109) (T := 99) (v := .int .u32 (gt x58 7)) (by kernel_rfl) (ldB ty99 (l := cA (Value.int .u32) x58) (o := 7) (v := .int .u32 (gt x58 7)) (ent_refl _) (arr_getC _ _ 7 hl59 (by kernel_rfl)))) hI ?_
      refine gR (i := 13) 2 (jL (d := 121) (T := 99) (v := .int .u32 (gt x58 5)) (by kernel_rfl) (ldB ty99 (l := cA (Value.int .u32) x58) (o := 5) (v := .int .u32 (gt x58 5)) (ent_refl _) (arr_getC _ _ 5 hl59 (by kernel_rfl)))) hI ?_
      refine gP 14 122 (.int .u32 (bAnd .u32 (gt x58 4) (gt x58 5))) ?_
      refine gR (i := 17) 2 (jL (d := 125) (T := 99) (v := .int .u32 (gt x58 6)) (by kernel_rfl) (ldB ty99 (l := cA (Value.int .u32) x58) (o := 6) (v := .int .u32 (gt x58 6)) (ent_refl _) (arr_getC _ _ 6 hl59 (by kernel_rfl)))) hI ?_
      refine gP 18 126 (.int .u32 (bAnd .u32 (wu32 (4294967295 - (gt x58 4))) (gt x58 6))) ?_
      refine gP 19 127 (.int .u32 (bXor .u32 (bAnd .u32 (gt x58 4) (gt x58 5)) (bAnd .u32 (wu32 (4294967295 - (gt x58 4))) (gt x58 6)))) ?_
      obtain ⟨hg61, h2⟩ := guardS h2
      refine gR (i := 22) 2 (Yl.indexArr (d := 130) (T := 101) (k := .i64) (j := x57) (g := b9) (o := 0) (by kernel_rfl) Go.Proofs.Tryz.underlying101 ty99 hg61.1 hg61.2) hI ?_
      refine gR (i := 23) 2 (jL (d := 131) (T := 99) (v := .int .u32 (gt y7 x57)) (by kernel_rfl) (ldB ty99 (l := cA (Value.int .u32) y7) (o := 0 + x57.toNat * 1) (v := .int .u32 (gt y7 x57)) (pick3 _ _ _ _) (arr_get _ _ hg61.1 (by have := And.intro hl8 hg61.2; omega)))) hI ?_
      obtain ⟨hg62, h2⟩ := guardS h2
      refine gR (i := 26) 2 (Yl.indexArr (d := 134) (T := 101) (k := .i64) (j := x57) (g := b18) (o := 0) (by kernel_rfl) Go.Proofs.Tryz.underlying101 ty99 hg62.1 hg62.2) hI ?_
      refine gR (i := 27) 2 (jL (d := 135) (T := 99) (v := .int .u32 (gt x19 x57)) (by kernel_rfl) (ldB ty99 (l := cA (Value.int .u32) x19) (o := 0 + x57.toNat * 1) (v := .int .u32 (gt x19 x57)) (pick2 _ _ _) (arr_get _ _ hg62.1 (by have := And.intro hl20 hg62.2; omega)))) hI ?_
      obtain ⟨y64, hc63, h2⟩ := bindS h2
      try dsimp only at h2
      refine jO (i := 3) (by kernel_rfl) (jC (d := some 111) (n := 105) (vs := [.int .u32 (gt x58 4), iv 6]) (by kernel_rfl) en105 (c105 w0 w _ _ hI hT (gt x58 4) 6 _ hc63) ?_)
      rintro e w ⟨rfl, hI⟩
      refine ⟨_, rfl, ?_⟩
      refine ⟨fun _ _ => hI, ?_⟩
      obtain ⟨y66, hc65, h2⟩ := bindS h2
      try dsimp only at h2
      refine jO (i := 5) (by kernel_rfl) (jC (d := some 113) (n := 105) (vs := [.int .u32 (gt x58 4), iv 11]) (by kernel_rfl) en105 (c105 w0 w _ _ hI hT (gt x58 4) 11 _ hc65) ?_)
      rintro e w ⟨rfl, hI⟩
      refine ⟨_, rfl, ?_⟩
      refine ⟨fun _ _ => hI, ?_⟩
      refine gP 6 114 (.int .u32 (bXor .u32 y64 y66)) ?_
      obtain ⟨y68, hc67, h2⟩ := bindS h2
      try dsimp only at h2
      refine jO (i := 8) (by kernel_rfl) (jC (d := some 116) (n := 105) (vs := [.int .u32 (gt x58 4), iv 25]) (by kernel_rfl) en105 (c105 w0 w _ _ hI hT (gt x58 4) 25 _ hc67) ?_)
      rintro e w ⟨rfl, hI⟩
      refine ⟨_, rfl, ?_⟩
      refine ⟨fun _ _ => hI, ?_⟩
      refine gP 9 117 (.int .u32 (bXor .u32 (bXor .u32 y64 y66) y68)) ?_
      refine gP 10 118 (.int .u32 (wu32 ((gt x58 7) + (bXor .u32 (bXor .u32 y64 y66) y68)))) ?_
      refine gP 20 128 (.int .u32 (wu32 ((wu32 ((gt x58 7) + (bXor .u32 (bXor .u32 y64 y66) y68))) + (bXor .u32 (bAnd .u32 (gt x58 4) (gt x58 5)) (bAnd .u32 (wu32 (4294967295 - (gt x58 4))) (gt x58 6)))))) ?_
      refine gP 24 132 (.int .u32 (wu32 ((wu32 ((wu32 ((gt x58 7) + (bXor .u32 (bXor .u32 y64 y66) y68))) + (bXor .u32 (bAnd .u32 (gt x58 4) (gt x58 5)) (bAnd .u32 (wu32 (4294967295 - (gt x58 4))) (gt x58 6))))) + (gt y7 x57)))) ?_
      refine gP 28 136 (.int .u32 (wu32 ((wu32 ((wu32 ((wu32 ((gt x58 7) + (bXor .u32 (bXor .u32 y64 y66) y68))) + (bXor .u32 (bAnd .u32 (gt x58 4) (gt x58 5)) (bAnd .u32 (wu32 (4294967295 - (gt x58 4))) (gt x58 6))))) + (gt y7 x57))) + (gt x19 x57)))) ?_
      refine gP 29 17 (.int .u32 (wu32 ((wu32 ((wu32 ((wu32 ((gt x58 7) + (bXor .u32 (bXor .u32 y64 y66) y68))) + (bXor .u32 (bAnd .u32 (gt x58 4) (gt x58 5)) (bAnd .u32 (wu32 (4294967295 - (gt x58 4))) (gt x58 6))))) + (gt y7 x57))) + (gt x19 x57)))) ?_
      refine jD (by kernel_rfl) ?_
      refine qT (cQ ?_)
      refine CodT.drawI (n := 25) [] (by kernel_rfl) (by kernel_rfl) hI ?_
      intro w hI
      refine gP 0 137 (.int .u32 (gt x58 0)) ?_
      refine gP 2 139 (.int .u32 (gt x58 0)) ?_
      refine gP 5 142 (.int .u32 (gt x58 0)) ?_
      refine gP 8 145 (.int .u32 (gt x58 0)) ?_
      refine gP 9 146 (.pointer (some ⟨b54, 1, none⟩)) ?_
      refine gP 12 149 (.int .u32 (gt x58 0)) ?_
      refine gP 13 150 (.pointer (some ⟨b54, 2, none⟩)) ?_
      refine gP 17 154 (.pointer (some ⟨b54, 1, none⟩)) ?_
      refine gP 19 156 (.pointer (some ⟨b54, 2, none⟩)) ?_
      refine gR (i := 10) 2 (jL (d := 147) (T := 99) (v := .int .u32 (gt x58 1)) (by kernel_rfl) (ldB ty99 (l := cA (Value.int .u32) x58) (o := 1) (v := .int .u32 (gt x58 1)) (ent_refl _) (arr_getC _ _ 1 hl59 (by kernel_rfl)))) hI ?_
      refine gP 11 148 (.int .u32 (bAnd .u32 (gt x58 0) (gt x58 1))) ?_
      refine gR (i := 14) 2 (jL (d := 151) (T := 99) (v := .int .u32 (gt x58 2)) (by kernel_rfl) (ldB ty99 (l := cA (Value.int .u32) x58) (o := 2) (v := .int .u32 (gt x58 2)) (ent_refl _) (arr_getC _ _ 2 hl59 (by kernel_rfl)))) hI ?_
      refine gP 15 152 (.int .u32 (bAnd .u32 (gt x58 0) (gt x58 2))) ?_
      refine gP 16 153 (.int .u32 (bXor .u32 (bAnd .u32 (gt x58 0) (gt x58 1)) (bAnd .u32 (gt x58 0) (gt x58 2)))) ?_
      refine gR (i := 18) 2 (jL (d := 155) (T := 99) (v := .int .u32 (gt x58 1)) (by kernel_rfl) (ldB ty99 (l := cA (Value.int .u32) x58) (o := 1) (v := .int .u32 (gt x58 1)) (ent_refl _) (arr_getC _ _ 1 hl59 (by kernel_rfl)))) hI ?_
      refine gR (i := 20) 2 (jL (d := 157) (T := 99) (v := .int .u32 (gt x58 2)) (by kernel_rfl) (ldB ty99 (l := cA (Value.int .u32) x58) (o := 2) (v := .int .u32 (gt x58 2)) (ent_refl _) (arr_getC _ _ 2 hl59 (by kernel_rfl)))) hI ?_
      refine gP 21 158 (.int .u32 (bAnd .u32 (gt x58 1) (gt x58 2))) ?_
      refine gP 22 159 (.int .u32 (bXor .u32 (bXor .u32 (bAnd .u32 (gt x58 0) (gt x58 1)) (bAnd .u32 (gt x58 0) (gt x58 2))) (bAnd .u32 (gt x58 1) (gt x58 2)))) ?_
      obtain ⟨y70, hc69, h2⟩ := bindS h2
      try dsimp only at h2
      refine jO (i := 1) (by kernel_rfl) (jC (d := some 138) (n := 105) (vs := [.int .u32 (gt x58 0), iv 2]) (by kernel_rfl) en105 (c105 w0 w _ _ hI hT (gt x58 0) 2 _ hc69) ?_)
      rintro e w ⟨rfl, hI⟩
      refine ⟨_, rfl, ?_⟩
      refine ⟨fun _ _ => hI, ?_⟩
      obtain ⟨y72, hc71, h2⟩ := bindS h2
      try dsimp only at h2
      refine jO (i := 3) (by kernel_rfl) (jC (d := some 140) (n := 105) (vs := [.int .u32 (gt x58 0), iv 13]) (by kernel_rfl) en105 (c105 w0 w _ _ hI hT (gt x58 0) 13 _ hc71) ?_)
      rintro e w ⟨rfl, hI⟩
      refine ⟨_, rfl, ?_⟩
      refine ⟨fun _ _ => hI, ?_⟩
      refine gP 4 141 (.int .u32 (bXor .u32 y70 y72)) ?_
      obtain ⟨y74, hc73, h2⟩ := bindS h2
      try dsimp only at h2
      refine jO (i := 6) (by kernel_rfl) (jC (d := some 143) (n := 105) (vs := [.int .u32 (gt x58 0), iv 22]) (by kernel_rfl) en105 (c105 w0 w _ _ hI hT (gt x58 0) 22 _ hc73) ?_)
      rintro e w ⟨rfl, hI⟩
      refine ⟨_, rfl, ?_⟩
      refine ⟨fun _ _ => hI, ?_⟩
      refine gP 7 144 (.int .u32 (bXor .u32 (bXor .u32 y70 y72) y74)) ?_
      refine gP 23 160 (.int .u32 (wu32 ((bXor .u32 (bXor .u32 y70 y72) y74) + (bXor .u32 (bXor .u32 (bAnd .u32 (gt x58 0) (gt x58 1)) (bAnd .u32 (gt x58 0) (gt x58 2))) (bAnd .u32 (gt x58 1) (gt x58 2)))))) ?_
      refine gP 24 18 (.int .u32 (wu32 ((bXor .u32 (bXor .u32 y70 y72) y74) + (bXor .u32 (bXor .u32 (bAnd .u32 (gt x58 0) (gt x58 1)) (bAnd .u32 (gt x58 0) (gt x58 2))) (bAnd .u32 (gt x58 1) (gt x58 2)))))) ?_
      refine jD (by kernel_rfl) ?_
      refine qT (cR [0, 1, 2, 3, 4, 5, 6, 7, 8, 9, 10, 11, 12, 13, 14, 15, 16, 17, 18, 19, 20] ?_)
      refine oP (r := [4, 5, 6, 7, 8, 9, 10, 11, 12, 13, 14, 15, 16, 17, 18, 19, 20]) [0, 1, 2, 3] (S' := [(2, pb b1), (3, pb b5), (4, pb b9), (5, .string y11), (6, iv x14), (7, pb b18), (12, pb b54), (13, iv x57), (17, .int .u32 (wu32 ((wu32 ((wu32 ((wu32 ((gt x58 7) + (bXor .u32 (bXor .u32 y64 y66) y68))) + (bXor .u32 (bAnd .u32 (gt x58 4) (gt x58 5)) (bAnd .u32 (wu32 (4294967295 - (gt x58 4))) (gt x58 6))))) + (gt y7 x57))) + (gt x19 x57)))), (163, .int .u32 (wu32 ((wu32 ((wu32 ((wu32 ((wu32 ((gt x58 7) + (bXor .u32 (bXor .u32 y64 y66) y68))) + (bXor .u32 (bAnd .u32 (gt x58 4) (gt x58 5)) (bAnd .u32 (wu32 (4294967295 - (gt x58 4))) (gt x58 6))))) + (gt y7 x57))) + (gt x19 x57))) + (wu32 ((bXor .u32 (bXor .u32 y70 y72) y74) + (bXor .u32 (bXor .u32 (bAnd .u32 (gt x58 0) (gt x58 1)) (bAnd .u32 (gt x58 0) (gt x58 2))) (bAnd .u32 (gt x58 1) (gt x58 2)))))))), (164, pb b54)]) ?_
      refine oC (jY (jL (d := 165) (T := 99) (v := .int .u32 (gt x58 0)) (by kernel_rfl) (ldB ty99 (l := cA (Value.int .u32) x58) (o := 0) (v := .int .u32 (gt x58 0)) (ent_refl _) (arr_getC _ _ 0 hl59 (by kernel_rfl)))) hI ?_)
      refine oP (r := [6, 7, 8, 9, 10, 11, 12, 13, 14, 15, 16, 17, 18, 19, 20]) [5] (S' := [(2, pb b1), (3, pb b5), (4, pb b9), (5, .string y11), (6, iv x14), (7, pb b18), (12, pb b54), (13, iv x57), (17, .int .u32 (wu32 ((wu32 ((wu32 ((wu32 ((gt x58 7) + (bXor .u32 (bXor .u32 y64 y66) y68))) + (bXor .u32 (bAnd .u32 (gt x58 4) (gt x58 5)) (bAnd .u32 (wu32 (4294967295 - (gt x58 4))) (gt x58 6))))) + (gt y7 x57))) + (gt x19 x57)))), (163, .int .u32 (wu32 ((wu32 ((wu32 ((wu32 ((wu32 ((gt x58 7) + (bXor .u32 (bXor .u32 y64 y66) y68))) + (bXor .u32 (bAnd .u32 (gt x58 4) (gt x58 5)) (bAnd .u32 (wu32 (4294967295 - (gt x58 4))) (gt x58 6))))) + (gt y7 x57))) + (gt x19 x57))) + (wu32 ((bXor .u32 (bXor .u32 y70 y72) y74) + (bXor .u32 (bXor .u32 (bAnd .u32 (gt x58 0) (gt x58 1)) (bAnd .u32 (gt x58 0) (gt x58 2))) (bAnd .u32 (gt x58 1) (gt x58 2)))))))), (165, .int .u32 (gt x58 0)), (166, .pointer (some ⟨b54, 1, none⟩))]) ?_
      refine oC (jY (jL (d := 167) (T := 99) (v := .int .u32 (gt x58 1)) (by kernel_rfl) (ldB ty99 (l := cA (Value.int .u32) x58) (o := 1) (v := .int .u32 (gt x58 1)) (ent_refl _) (arr_getC _ _ 1 hl59 (by kernel_rfl)))) hI ?_)
      refine oP (r := [8, 9, 10, 11, 12, 13, 14, 15, 16, 17, 18, 19, 20]) [7] (S' := [(2, pb b1), (3, pb b5), (4, pb b9), (5, .string y11), (6, iv x14), (7, pb b18), (12, pb b54), (13, iv x57), (17, .int .u32 (wu32 ((wu32 ((wu32 ((wu32 ((gt x58 7) + (bXor .u32 (bXor .u32 y64 y66) y68))) + (bXor .u32 (bAnd .u32 (gt x58 4) (gt x58 5)) (bAnd .u32 (wu32 (4294967295 - (gt x58 4))) (gt x58 6))))) + (gt y7 x57))) + (gt x19 x57)))), (163, .int .u32 (wu32 ((wu32 ((wu32 ((wu32 ((wu32 ((gt x58 7) + (bXor .u32 (bXor .u32 y64 y66) y68))) + (bXor .u32 (bAnd .u32 (gt x58 4) (gt x58 5)) (bAnd .u32 (wu32 (4294967295 - (gt x58 4))) (gt x58 6))))) + (gt y7 x57))) + (gt x19 x57))) + (wu32 ((bXor .u32 (bXor .u32 y70 y72) y74) + (bXor .u32 (bXor .u32 (bAnd .u32 (gt x58 0) (gt x58 1)) (bAnd .u32 (gt x58 0) (gt x58 2))) (bAnd .u32 (gt x58 1) (gt x58 2)))))))), (165, .int .u32 (gt x58 0)), (167, .int .u32 (gt x58 1)), (168, .pointer (some ⟨b54, 2, none⟩))]) ?_
      refine oC (jY (jL (d := 169) (T := 99) (v := .int .u32 (gt x58 2)) (by kernel_rfl) (ldB ty99 (l := cA (Value.int .u32) x58) (o := 2) (v := .int .u32 (gt x58 2)) (ent_refl _) (arr_getC _ _ 2 hl59 (by kernel_rfl)))) hI ?_)
      refine oP (r := [10, 11, 12, 13, 14, 15, 16, 17, 18, 19, 20]) [9] (S' := [(2, pb b1), (3, pb b5), (4, pb b9), (5, .string y11), (6, iv x14), (7, pb b18), (12, pb b54), (13, iv x57), (17, .int .u32 (wu32 ((wu32 ((wu32 ((wu32 ((gt x58 7) + (bXor .u32 (bXor .u32 y64 y66) y68))) + (bXor .u32 (bAnd .u32 (gt x58 4) (gt x58 5)) (bAnd .u32 (wu32 (4294967295 - (gt x58 4))) (gt x58 6))))) + (gt y7 x57))) + (gt x19 x57)))), (163, .int .u32 (wu32 ((wu32 ((wu32 ((wu32 ((wu32 ((gt x58 7) + (bXor .u32 (bXor .u32 y64 y66) y68))) + (bXor .u32 (bAnd .u32 (gt x58 4) (gt x58 5)) (bAnd .u32 (wu32 (4294967295 - (gt x58 4))) (gt x58 6))))) + (gt y7 x57))) + (gt x19 x57))) + (wu32 ((bXor .u32 (bXor .u32 y70 y72) y74) + (bXor .u32 (bXor .u32 (bAnd .u32 (gt x58 0) (gt x58 1)) (bAnd .u32 (gt x58 0) (gt x58 2))) (bAnd .u32 (gt x58 1) (gt x58 2)))))))), (165, .int .u32 (gt x58 0)), (167, .int .u32 (gt x58 1)), (169, .int .u32 (gt x58 2)), (170, .pointer (some ⟨b54, 3, none⟩))]) ?_
      refine oC (jY (jL (d := 171) (T := 99) (v := .int .u32 (gt x58 3)) (by kernel_rfl) (ldB ty99 (l := cA (Value.int .u32) x58) (o := 3) (v := .int .u32 (gt x58 3)) (ent_refl _) (arr_getC _ _ 3 hl59 (by kernel_rfl)))) hI ?_)
      refine oP (r := [14, 15, 16, 17, 18, 19, 20]) [11, 12, 13] (S' := [(2, pb b1), (3, pb b5), (4, pb b9), (5, .string y11), (6, iv x14), (7, pb b18), (12, pb b54), (13, iv x57), (163, .int .u32 (wu32 ((wu32 ((wu32 ((wu32 ((wu32 ((gt x58 7) + (bXor .u32 (bXor .u32 y64 y66) y68))) + (bXor .u32 (bAnd .u32 (gt x58 4) (gt x58 5)) (bAnd .u32 (wu32 (4294967295 - (gt x58 4))) (gt x58 6))))) + (gt y7 x57))) + (gt x19 x57))) + (wu32 ((bXor .u32 (bXor .u32 y70 y72) y74) + (bXor .u32 (bXor .u32 (bAnd .u32 (gt x58 0) (gt x58 1)) (bAnd .u32 (gt x58 0) (gt x58 2))) (bAnd .u32 (gt x58 1) (gt x58 2)))))))), (165, .int .u32 (gt x58 0)), (167, .int .u32 (gt x58 1)), (169, .int .u32 (gt x58 2)), (173, .int .u32 (wu32 ((gt x58 3) + (wu32 ((wu32 ((wu32 ((wu32 ((gt x58 7) + (bXor .u32 (bXor .u32 y64 y66) y68))) + (bXor .u32 (bAnd .u32 (gt x58 4) (gt x58 5)) (bAnd .u32 (wu32 (4294967295 - (gt x58 4))) (gt x58 6))))) + (gt y7 x57))) + (gt x19 x57)))))), (174, .pointer (some ⟨b54, 4, none⟩))]) ?_
      refine oC (jY (jL (d := 175) (T := 99) (v := .int .u32 (gt x58 4)) (by kernel_rfl) (ldB ty99 (l := cA (Value.int .u32) x58) (o := 4) (v := .int .u32 (gt x58 4)) (ent_refl _) (arr_getC _ _ 4 hl59 (by kernel_rfl)))) hI ?_)
      refine oP (r := [16, 17, 18, 19, 20]) [15] (S' := [(2, pb b1), (3, pb b5), (4, pb b9), (5, .string y11), (6, iv x14), (7, pb b18), (12, pb b54), (13, iv x57), (163, .int .u32 (wu32 ((wu32 ((wu32 ((wu32 ((wu32 ((gt x58 7) + (bXor .u32 (bXor .u32 y64 y66) y68))) + (bXor .u32 (bAnd .u32 (gt x58 4) (gt x58 5)) (bAnd .u32 (wu32 (4294967295 - (gt x58 4))) (gt x58 6))))) + (gt y7 x57))) + (gt x19 x57))) + (wu32 ((bXor .u32 (bXor .u32 y70 y72) y74) + (bXor .u32 (bXor .u32 (bAnd .u32 (gt x58 0) (gt x58 1)) (bAnd .u32 (gt x58 0) (gt x58 2))) (bAnd .u32 (gt x58 1) (gt x58 2)))))))), (165, .int .u32 (gt x58 0)), (167, .int .u32 (gt x58 1)), (169, .int .u32 (gt x58 2)), (173, .int .u32 (wu32 ((gt x58 3) + (wu32 ((wu32 ((wu32 ((wu32 ((gt x58 7) + (bXor .u32 (bXor .u32 y64 y66) y68))) + (bXor .u32 (bAnd .u32 (gt x58 4) (gt x58 5)) (bAnd .u32 (wu32 (4294967295 - (gt x58 4))) (gt x58 6))))) + (gt y7 x57))) + (gt x19 x57)))))), (175, .int .u32 (gt x58 4)), (176, .pointer (some ⟨b54, 5, none⟩))]) ?_
      refine oC (jY (jL (d := 177) (T := 99) (v := .int .u32 (gt x58 5)) (by kernel_rfl) (ldB ty99 (l := cA (Value.int .u32) x58) (o := 5) (v := .int .u32 (gt x58 5)) (ent_refl _) (arr_getC _ _ 5 hl59 (by kernel_rfl)))) hI ?_)
      refine oP (r := [18, 19, 20]) [17] (S' := [(2, pb b1), (3, pb b5), (4, pb b9), (5, .string y11), (6, iv x14), (7, pb b18), (12, pb b54), (13, iv x57), (163, .int .u32 (wu32 ((wu32 ((wu32 ((wu32 ((wu32 ((gt x58 7) + (bXor .u32 (bXor .u32 y64 y66) y68))) + (bXor .u32 (bAnd .u32 (gt x58 4) (gt x58 5)) (bAnd .u32 (wu32 (4294967295 - (gt x58 4))) (gt x58 6))))) + (gt y7 x57))) + (gt x19 x57))) + (wu32 ((bXor .u32 (bXor .u32 y70 y72) y74) + (bXor .u32 (bXor .u32 (bAnd .u32 (gt x58 0) (gt x58 1)) (bAnd .u32 (gt x58 0) (gt x58 2))) (bAnd .u32 (gt x58 1) (gt x58 2)))))))), (165, .int .u32 (gt x58 0)), (167, .int .u32 (gt x58 1)), (169, .int .u32 (gt x58 2)), (173, .int .u32 (wu32 ((gt x58 3) + (wu32 ((wu32 ((wu32 ((wu32 ((gt x58 7) + (bXor .u32 (bXor .u32 y64 y66) y68))) + (bXor .u32 (bAnd .u32 (gt x58 4) (gt x58 5)) (bAnd .u32 (wu32 (4294967295 - (gt x58 4))) (gt x58 6))))) + (gt y7 x57))) + (gt x19 x57)))))), (175, .int .u32 (gt x58 4)), (177, .int .u32 (gt x58 5)), (178, .pointer (some ⟨b54, 6, none⟩))]) ?_
      refine oC (jY (jL (d := 179) (T := 99) (v := .int .u32 (gt x58 6)) (by kernel_rfl) (ldB ty99 (l := cA (Value.int .u32) x58) (o := 6) (v := .int .u32 (gt x58 6)) (ent_refl _) (arr_getC _ _ 6 hl59 (by kernel_rfl)))) hI ?_)
      refine oP (r := [20]) [19] (S' := [(2, pb b1), (3, pb b5), (4, pb b9), (5, .string y11), (6, iv x14), (7, pb b18), (12, pb b54), (13, iv x57), (180, .agg (cA (Value.int .u32) ([wu32 ((wu32 ((wu32 ((wu32 ((wu32 ((gt x58 7) + (bXor .u32 (bXor .u32 y64 y66) y68))) + (bXor .u32 (bAnd .u32 (gt x58 4) (gt x58 5)) (bAnd .u32 (wu32 (4294967295 - (gt x58 4))) (gt x58 6))))) + (gt y7 x57))) + (gt x19 x57))) + (wu32 ((bXor .u32 (bXor .u32 y70 y72) y74) + (bXor .u32 (bXor .u32 (bAnd .u32 (gt x58 0) (gt x58 1)) (bAnd .u32 (gt x58 0) (gt x58 2))) (bAnd .u32 (gt x58 1) (gt x58 2)))))), gt x58 0, gt x58 1, gt x58 2, wu32 ((gt x58 3) + (wu32 ((wu32 ((wu32 ((wu32 ((gt x58 7) + (bXor .u32 (bXor .u32 y64 y66) y68))) + (bXor .u32 (bAnd .u32 (gt x58 4) (gt x58 5)) (bAnd .u32 (wu32 (4294967295 - (gt x58 4))) (gt x58 6))))) + (gt y7 x57))) + (gt x19 x57)))), gt x58 4, gt x58 5, gt x58 6] : List Int)).toArray)]) ?_
      refine oC (jV (T := 100) (b := b54) (n := 8) (xs := x58) (ys := ([wu32 ((wu32 ((wu32 ((wu32 ((wu32 ((gt x58 7) + (bXor .u32 (bXor .u32 y64 y66) y68))) + (bXor .u32 (bAnd .u32 (gt x58 4) (gt x58 5)) (bAnd .u32 (wu32 (4294967295 - (gt x58 4))) (gt x58 6))))) + (gt y7 x57))) + (gt x19 x57))) + (wu32 ((bXor .u32 (bXor .u32 y70 y72) y74) + (bXor .u32 (bXor .u32 (bAnd .u32 (gt x58 0) (gt x58 1)) (bAnd .u32 (gt x58 0) (gt x58 2))) (bAnd .u32 (gt x58 1) (gt x58 2)))))), gt x58 0, gt x58 1, gt x58 2, wu32 ((gt x58 3) + (wu32 ((wu32 ((wu32 ((wu32 ((gt x58 7) + (bXor .u32 (bXor .u32 y64 y66) y68))) + (bXor .u32 (bAnd .u32 (gt x58 4) (gt x58 5)) (bAnd .u32 (wu32 (4294967295 - (gt x58 4))) (gt x58 6))))) + (gt y7 x57))) + (gt x19 x57)))), gt x58 4, gt x58 5, gt x58 6] : List Int)) (by kernel_rfl) ty100 hI (fun _ => rfl) hl59 (by kernel_rfl) ?_)
      intro w hI
      refine oD (jN (qT (cR [0, 1, 2] ?_)))
      refine oP (r := []) [0, 1, 2] (S' := [(2, pb b1), (3, pb b5), (4, pb b9), (5, .string y11), (6, iv x14), (7, pb b18), (12, pb b54), (13, iv (wi64 (x57 + 1)))]) ?_
      refine oD ?_
      exact jT fun a ha => ⟨k, Nat.lt_succ_self k, wi64 (x57 + 1), ([wu32 ((wu32 ((wu32 ((wu32 ((wu32 ((gt x58 7) + (bXor .u32 (bXor .u32 y64 y66) y68))) + (bXor .u32 (bAnd .u32 (gt x58 4) (gt x58 5)) (bAnd .u32 (wu32 (4294967295 - (gt x58 4))) (gt x58 6))))) + (gt y7 x57))) + (gt x19 x57))) + (wu32 ((bXor .u32 (bXor .u32 y70 y72) y74) + (bXor .u32 (bXor .u32 (bAnd .u32 (gt x58 0) (gt x58 1)) (bAnd .u32 (gt x58 0) (gt x58 2))) (bAnd .u32 (gt x58 1) (gt x58 2)))))), gt x58 0, gt x58 1, gt x58 2, wu32 ((gt x58 3) + (wu32 ((wu32 ((wu32 ((wu32 ((gt x58 7) + (bXor .u32 (bXor .u32 y64 y66) y68))) + (bXor .u32 (bAnd .u32 (gt x58 4) (gt x58 5)) (bAnd .u32 (wu32 (4294967295 - (gt x58 4))) (gt x58 6))))) + (gt y7 x57))) + (gt x19 x57)))), gt x58 4, gt x58 5, gt x58 6] : List Int), h2, ha.keep [2, 3, 4, 5, 6, 7, 12, 13] (by kernel_rfl), hI, (by kernel_rfl)⟩
     ·
      rw [if_neg hb60] at h2
      refine cN (b := decide (x57 < 64)) (by simpa using hb60) ?_
      refine jZ ?_
      refine jX (jX ?_)
      refine Qn.block ?_
      have hI := hI.mono (pick2 _ _ _)
      have hI := hI.drop
      have e := someS h2
      subst e
      exact jT fun a ha => ⟨x58, rfl, ha.keep [2, 3, 4, 5, 6, 12] (by kernel_rfl), hI, hl59⟩
    ·
     rintro a w ⟨x55, rfl, ha, hI, hl56⟩
     try dsimp only at h1
     refine Qn.of ?_ ha
     refine qT (cQ (cR [0] ?_))
     refine oP (r := []) [0] (S' := [(2, pb b1), (3, pb b5), (4, pb b9), (5, .string y11), (6, iv x14), (12, pb b54), (19, iv 0)]) ?_
     refine oD (qT ?_)
     obtain ⟨r2, h2, h1⟩ := bindS h1
     refine CodT.meet1 (fun a w => ∃ (x75 : (List Int)), x75 = r2 ∧ Fr 216 [(2, pb b1), (3, pb b5), (4, pb b9), (5, .string y11), (6, iv x14)] a ∧ Inv w0 Z w (star (pt b9 (.cells (cA (Value.int .u32) y7).toArray 101 (0, 0))) (star (pt b5 (.cells (cA (Value.int .u32) x75).toArray 100 (0, 0))) (star (pt b1 (.cells (q8c q8z).toArray 23 (0, 0))) A))) ∧ x75.length = 8) ?_ ?_
     ·
      refine jB ?_
      refine (fun a ha => wp_loopN (fun k a w => ∃ (x77 : Int) (x78 : (List Int)), ref02_Of.l4 x55 k x77 x78 = some r2 ∧ Fr 216 [(2, pb b1), (3, pb b5), (4, pb b9), (5, .string y11), (6, iv x14), (12, pb b54), (19, iv x77)] a ∧ Inv w0 Z w (star (pt b54 (.cells (cA (Value.int .u32) x55).toArray 100 (0, 0))) (star (pt b9 (.cells (cA (Value.int .u32) y7).toArray 101 (0, 0))) (star (pt b5 (.cells (cA (Value.int .u32) x78).toArray 100 (0, 0))) (star (pt b1 (.cells (q8c q8z).toArray 23 (0, 0))) A)))) ∧ x78.length = 8) ?_ FU a w ⟨0, x15, h2, ha.keep [2, 3, 4, 5, 6, 12, 19] (by kernel_rfl), hI, hl16⟩)
      clear h2 hI
      rintro k a w ⟨x77, x78, h2, ha, hI, hl79⟩
      rcases k with _ | k
      ·
       cases h2
      simp only [ref02_Of.l4] at h2
      refine CodT.of ?_ ha
      refine cQ (cQ (cR [0, 1] ?_))
      refine oP (r := []) [0, 1] (S' := [(2, pb b1), (3, pb b5), (4, pb b9), (5, .string y11), (6, iv x14), (12, pb b54), (19, iv x77), (182, .bool (decide (x77 < 8)))]) ?_
      refine oD (qT ?_)
      by_cases hb80 : (decide (x77 < 8)) = true
      ·
       rw [if_pos hb80] at h2
       refine cY (b := decide (x77 < 8)) hb80 ?_
       refine jS (qT (cQ (jB ?_)))
       refine CodT.drawI (n := 10) [9] (by kernel_rfl) (by kernel_rfl) hI ?_
       intro w hI
       refine gP 0 185 (iv x77) ?_
       refine gP 1 186 (iv x77) ?_
       refine gP 4 189 (iv x77) ?_
       obtain ⟨hg81, h2⟩ := guardS h2
       refine gR (i := 2) 2 (Yl.indexArr (d := 187) (T := 100) (k := .i64) (j := x77) (g := b5) (o := 0) (by kernel_rfl) Go.Proofs.Tryz.underlying100 ty99 hg81.1 hg81.2) hI ?_
       refine gR (i := 3) 2 (jL (d := 188) (T := 99) (v := .int .u32 (gt x78 x77)) (by kernel_rfl) (ldB ty99 (l := cA (Value.int .u32) x78) (o := 0 + x77.toNat * 1) (v := .int .u32 (gt x78 x77)) (pick3 _ _ _ _) (arr_get _ _ hg81.1 (by have := And.intro hl79 hg81.2; omega)))) hI ?_
       obtain ⟨hg82, h2⟩ := guardS h2
       refine gR (i := 5) 2 (Yl.indexArr (d := 190) (T := 100) (k := .i64) (j := x77) (g := b54) (o := 0) (by kernel_rfl) Go.Proofs.Tryz.underlying100 ty99 hg82.1 hg82.2) hI ?_
       refine gR (i := 6) 2 (jL (d := 191) (T := 99) (v := .int .u32 (gt x55 x77)) (by kernel_rfl) (ldB ty99 (l := cA (Value.int .u32) x55) (o := 0 + x77.toNat * 1) (v := .int .u32 (gt x55 x77)) (ent_refl _) (arr_get _ _ hg82.1 (by have := And.intro hl56 hg82.2; omega)))) hI ?_
       refine gP 7 192 (.int .u32 (wu32 ((gt x78 x77) + (gt x55 x77)))) ?_
       obtain ⟨hg83, h2⟩ := guardS h2
       refine gR (i := 8) 2 (Yl.indexArr (d := 193) (T := 100) (k := .i64) (j := x77) (g := b5) (o := 0) (by kernel_rfl) Go.Proofs.Tryz.underlying100 ty99 hg83.1 hg83.2) hI ?_
       have hI := hI.mono (pick3 _ _ _ _)
       refine jO (i := 9) (by kernel_rfl) (Does.storeArr (e := (Value.int .u32)) (xs := x78) (u := wu32 ((gt x78 x77) + (gt x55 x77))) (T := 99) (b := b5) (j := x77) (by kernel_rfl) ty99 hI (by kernel_rfl) (by kernel_rfl) hg83.1 (by have := And.intro hl79 hg83.2; omega) ?_)
       intro w hI
       refine ⟨fun h => absurd h (by decide), ?_⟩
       refine jD (by kernel_rfl) ?_
       refine jN (qT (cR [0, 1, 2] ?_))
       refine oP (r := []) [0, 1, 2] (S' := [(2, pb b1), (3, pb b5), (4, pb b9), (5, .string y11), (6, iv x14), (12, pb b54), (19, iv (wi64 (x77 + 1)))]) ?_
       refine oD ?_
       have hI := hI.mono (pick4 _ _ _ _ _)
       have hI := hI.mono (pick2 _ _ _)
       have hI := hI.mono (pick4 _ _ _ _ _)
       have hI := hI.mono (pick4 _ _ _ _ _)
       exact jT fun a ha => ⟨k, Nat.lt_succ_self k, wi64 (x77 + 1), st x78 x77 (wu32 ((gt x78 x77) + (gt x55 x77))), h2, ha.keep [2, 3, 4, 5, 6, 12, 19] (by kernel_rfl), hI, ((st_length _ _ _).trans hl79)⟩
      ·
       rw [if_neg hb80] at h2
       refine cN (b := decide (x77 < 8)) (by simpa using hb80) ?_
       refine jZ ?_
       refine jX (jX ?_)
       refine Qn.block ?_
       have hI := hI.drop
       have e := someS h2
       subst e
       exact jT fun a ha => ⟨x78, rfl, ha.keep [2, 3, 4, 5, 6] (by kernel_rfl), hI, hl79⟩
     ·
      rintro a w ⟨x75, rfl, ha, hI, hl76⟩
      try dsimp only at h1
      refine Qn.of ?_ ha
      refine jN (qT (cR [0, 1, 2] ?_))
      refine oP (r := []) [0, 1, 2] (S' := [(2, pb b1), (3, pb b5), (4, pb b9), (5, .string y11), (6, iv (wi64 (x14 + 64)))]) ?_
      refine oD ?_
      exact jT fun a ha => ⟨k, Nat.lt_succ_self k, wi64 (x14 + 64), x75, h1, ha.keep [2, 3, 4, 5, 6] (by kernel_rfl), hI, hl76⟩
  ·
   rw [if_neg hb17] at h1
   refine cN (b := decide (x14 < (y11.size : Int))) (by simpa using hb17) ?_
   refine jZ ?_
   refine jX (jX ?_)
   refine Qn.block ?_
   have hI := hI.drop
   have e := someS h1
   subst e
   exact jT fun a ha => ⟨x15, rfl, ha.keep [2, 3] (by kernel_rfl), hI, hl16⟩
 ·
  rintro a w ⟨x12, rfl, ha, hI, hl13⟩
  try dsimp only at h0
  refine Qn.of ?_ ha
  refine qT (cQ (cR [0] ?_))
  refine oC (jA (d := 20) (T := 23) (q8c q8z) (by kernel_rfl) ty23 hI (by kernel_rfl) ?_)
  intro b84 w hI
  refine oD (qT (cQ (cQ (cR [0] ?_))))
  refine oP (r := []) [0] (S' := [(2, pb b1), (3, pb b5), (20, pb b84), (21, iv 0)]) ?_
  refine oD (qT ?_)
  obtain ⟨r1, h1, h0⟩ := bindS h0
  refine CodT.meet1 (fun a w => ∃ (x85 : (List Int)), x85 = r1 ∧ Fr 216 [(2, pb b1), (20, pb b84)] a ∧ Inv w0 Z w (star (pt b84 (.cells (q8c x85).toArray 23 (0, 0))) (star (pt b1 (.cells (q8c q8z).toArray 23 (0, 0))) A)) ∧ x85.length = 32) ?_ ?_
  ·
   refine jB ?_
   refine (fun a ha => wp_loopN (fun k a w => ∃ (x87 : Int) (x88 : (List Int)), ref02_Of.l5 x12 k x87 x88 = some r1 ∧ Fr 216 [(2, pb b1), (3, pb b5), (20, pb b84), (21, iv x87)] a ∧ Inv w0 Z w (star (pt b84 (.cells (q8c x88).toArray 23 (0, 0))) (star (pt b5 (.cells (cA (Value.int .u32) x12).toArray 100 (0, 0))) (star (pt b1 (.cells (q8c q8z).toArray 23 (0, 0))) A))) ∧ x88.length = 32) ?_ FU a w ⟨0, q8z, h1, ha.keep [2, 3, 20, 21] (by kernel_rfl), hI, (by kernel_rfl)⟩)
   clear h1 hI
   rintro k a w ⟨x87, x88, h1, ha, hI, hl89⟩
   rcases k with _ | k
   ·
    cases h1
   simp only [ref02_Of.l5] at h1
   refine CodT.of ?_ ha
   refine cQ (cQ (cR [0, 1] ?_))
   refine oP (r := []) [0, 1] (S' := [(2, pb b1), (3, pb b5), (20, pb b84), (21, iv x87), (195, .bool (decide (x87 < 32)))]) ?_
   refine oD (qT ?_)
   by_cases hb90 : (decide (x87 < 32)) = true
   ·
    rw [if_pos hb90] at h1
    refine cY (b := decide (x87 < 32)) hb90 ?_
    refine jS (qT (cQ (jB (cQ (cR [0, 1, 2, 3, 4] ?_)))))
    refine oP (r := [2, 3, 4]) [0, 1] (S' := [(2, pb b1), (3, pb b5), (20, pb b84), (21, iv x87), (199, iv (wi64 (x87.tdiv 4)))]) ?_
    obtain ⟨hg91, h1⟩ := guardS h1
    refine oC (jY (Yl.indexArr (d := 200) (T := 100) (k := .i64) (j := wi64 (x87.tdiv 4)) (g := b5) (o := 0) (by kernel_rfl) Go.Proofs.Tryz.underlying100 ty99 hg91.1 hg91.2) hI ?_)
    refine oC (jY (jL (d := 201) (T := 99) (v := .int .u32 (gt x12 (wi64 (x87.tdiv 4)))) (by kernel_rfl) (ldB ty99 (l := cA (Value.int .u32) x12) (o := 0 + (wi64 (x87.tdiv 4)).toNat * 1) (v := .int .u32 (gt x12 (wi64 (x87.tdiv 4)))) (pick2 _ _ _) (arr_get _ _ hg91.1 (by have := And.intro hl13 hg91.2; omega)))) hI ?_)
    refine oP (r := []) [4] (S' := [(2, pb b1), (3, pb b5), (20, pb b84), (21, iv x87), (22, .int .u32 (gt x12 (wi64 (x87.tdiv 4))))]) ?_
    refine oD (qT (cQ (cQ (cR [0, 1, 2] ?_))))
    refine oP (r := []) [0, 1, 2] (S' := [(2, pb b1), (3, pb b5), (20, pb b84), (21, iv x87), (22, .int .u32 (gt x12 (wi64 (x87.tdiv 4)))), (23, iv (x87.tmod 4))]) ?_
    refine oD (qT ?_)
    obtain ⟨r2, h2, h1⟩ := bindS h1
    refine CodT.meet1 (fun a w => ∃ (x92 : Int), x92 = r2 ∧ Fr 216 [(2, pb b1), (3, pb b5), (20, pb b84), (21, iv x87), (22, .int .u32 x92)] a ∧ Inv w0 Z w (star (pt b84 (.cells (q8c x88).toArray 23 (0, 0))) (star (pt b5 (.cells (cA (Value.int .u32) x12).toArray 100 (0, 0))) (star (pt b1 (.cells (q8c q8z).toArray 23 (0, 0))) A)))) ?_ ?_
    ·
     refine jB ?_
     refine (fun a ha => wp_loopN (fun k a w => ∃ (x93 : Int) (x94 : Int), ref02_Of.l6 k x93 x94 = some r2 ∧ Fr 216 [(2, pb b1), (3, pb b5), (20, pb b84), (21, iv x87), (22, .int .u32 x93), (23, iv x94)] a ∧ Inv w0 Z w (star (pt b84 (.cells (q8c x88).toArray 23 (0, 0))) (star (pt b5 (.cells (cA (Value.int .u32) x12).toArray 100 (0, 0))) (star (pt b1 (.cells (q8c q8z).toArray 23 (0, 0))) A)))) ?_ FU a w ⟨gt x12 (wi64 (x87.tdiv 4)), x87.tmod 4, h2, ha.keep [2, 3, 20, 21, 22, 23] (by kernel_rfl), hI⟩)
     clear h2 hI
     rintro k a w ⟨x93, x94, h2, ha, hI⟩
     rcases k with _ | k
     ·
      cases h2
     simp only [ref02_Of.l6] at h2
     refine CodT.of ?_ ha
     refine cQ (cQ (cR [0, 1] ?_))
     refine oP (r := []) [0, 1] (S' := [(2, pb b1), (3, pb b5), (20, pb b84), (21, iv x87), (22, .int .u32 x93), (23, iv x94), (205, .bool (decide (x94 < 3)))]) ?_
     refine oD (qT ?_)
     by_cases hb95 : (decide (x94 < 3)) = true
     ·
      rw [if_pos hb95] at h2
      refine cY (b := decide (x94 < 3)) hb95 ?_
      refine jS (qT (cQ (jB (cR [0, 1, 2] ?_))))
      refine oP (r := []) [0, 1, 2] (S' := [(2, pb b1), (3, pb b5), (20, pb b84), (21, iv x87), (22, .int .u32 (wu32 (x93.tdiv 256))), (23, iv x94)]) ?_
      refine oD (jN (qT (cR [0, 1, 2] ?_)))
      refine oP (r := []) [0, 1, 2] (S' := [(2, pb b1), (3, pb b5), (20, pb b84), (21, iv x87), (22, .int .u32 (wu32 (x93.tdiv 256))), (23, iv (wi64 (x94 + 1)))]) ?_
      refine oD ?_
      exact jT fun a ha => ⟨k, Nat.lt_succ_self k, wu32 (x93.tdiv 256), wi64 (x94 + 1), h2, ha.keep [2, 3, 20, 21, 22, 23] (by kernel_rfl), hI⟩
     ·
      rw [if_neg hb95] at h2
      refine cN (b := decide (x94 < 3)) (by simpa using hb95) ?_
      refine jZ ?_
      refine jX (jX ?_)
      refine Qn.block ?_
      have e := someS h2
      subst e
      exact jT fun a ha => ⟨x93, rfl, ha.keep [2, 3, 20, 21, 22] (by kernel_rfl), hI⟩
    ·
     rintro a w ⟨x92, rfl, ha, hI⟩
     try dsimp only at h1
     refine Qn.of ?_ ha
     refine qT (cR [0, 1, 2, 3, 4, 5] ?_)
     refine oP (r := [4, 5]) [0, 1, 2, 3] (S' := [(2, pb b1), (3, pb b5), (20, pb b84), (21, iv x87), (210, iv x87), (213, .int .u8 (wu8 (x92.tmod 256)))]) ?_
     obtain ⟨hg96, h1⟩ := guardS h1
     refine oC (jY (Yl.indexArr (d := 214) (T := 23) (k := .i64) (j := x87) (g := b84) (o := 0) (by kernel_rfl) Go.Proofs.Tryz.underlying23 ty5 hg96.1 hg96.2) hI ?_)
     refine oC (Does.storeArr (e := (Value.int .u8)) (xs := x88) (u := wu8 (x92.tmod 256)) (T := 5) (b := b84) (j := x87) (by kernel_rfl) ty5 hI (by kernel_rfl) (by kernel_rfl) hg96.1 (by have := And.intro hl89 hg96.2; omega) ?_)
     intro w hI
     refine oD (jN (qT (cR [0, 1, 2] ?_)))
     refine oP (r := []) [0, 1, 2] (S' := [(2, pb b1), (3, pb b5), (20, pb b84), (21, iv (wi64 (x87 + 1)))]) ?_
     refine oD ?_
     exact jT fun a ha => ⟨k, Nat.lt_succ_self k, wi64 (x87 + 1), st x88 x87 (wu8 (x92.tmod 256)), h1, ha.keep [2, 3, 20, 21] (by kernel_rfl), hI, ((st_length _ _ _).trans hl89)⟩
   ·
    rw [if_neg hb90] at h1
    refine cN (b := decide (x87 < 32)) (by simpa using hb90) ?_
    refine jZ ?_
    refine jX (jX ?_)
    refine Qn.block ?_
    have hI := hI.mono (pick2 _ _ _)
    have hI := hI.drop
    have e := someS h1
    subst e
    exact jT fun a ha => ⟨x88, rfl, ha.keep [2, 20] (by kernel_rfl), hI, hl89⟩
  ·
   rintro a w ⟨x85, rfl, ha, hI, hl86⟩
   try dsimp only at h0
   refine Qn.of ?_ ha
   refine qT (cQ (cR [0, 1] ?_))
   refine oC (jY (jL (d := 215) (T := 23) (v := .agg (q8c x85).toArray) (by kernel_rfl) (ldBN ty23 (l := cA (Value.int .u8) x85) (o := 0) (cs := cA (Value.int .u8) x85) (ent_refl _) ((cA_length _ _).trans hl86) (whole _ _ ((cA_length _ _).trans hl86)))) hI ?_)
   have hI := hI.mono (pick2 _ _ _)
   refine oC (jV (T := 23) (b := b1) (n := 32) (xs := q8z) (ys := x85) (by kernel_rfl) ty23 hI (fun _ => rfl) (by kernel_rfl) hl86 ?_)
   intro w hI
   refine oD (qT (jE ?_))
   have hL97 := (ldBN ty23 (l := cA (Value.int .u8) x85) (o := 0) (cs := cA (Value.int .u8) x85) (ent_refl _) ((cA_length _ _).trans hl86) (whole _ _ ((cA_length _ _).trans hl86))) w hI
   have hI := hI.drop
   have hI := hI.drop
   have e := someS h0
   subst e
   refine qK [2] (S' := [(2, pb b1)]) ?_
   exact post_ret (v := .agg (q8c x85).toArray) (fun a ha => jU (vs := [.agg (q8c x85).toArray]) (.cell (t := 2) (T := 23) (ad := ⟨b1, 0, none⟩) (by kernel_rfl) hL97 .nil) ha (by kernel_rfl)) ⟨rfl, hl86, hI⟩
/-- cenotaph/cenotaphref06.Start -/
theorem c66 (w0 w : World) (Z : Hp) (A : HP) (hI : Inv w0 Z w A) (hT : Tabs Z)  (r : (List Int)) (h0 : ref06_Start = some r) :
  Calls prog 66 #[] w (fun e w' => e = .returned (.agg (q8c r).toArray) ∧ r.length = 32 ∧ Inv w0 Z w' A) := by
 have e4 := calls_intro (R := (fun e w' => e = .returned (.agg (q8c r).toArray) ∧ r.length = 32 ∧ Inv w0 Z w' A)) (w := w) (args := []) (fn := Go.Proofs.Tryz.f66) 2 Go.Proofs.Tryz.func66 (by rfl) Go.Proofs.Tryz.ntmps66 (by kernel_rfl)
 refine e4 ?_
 clear e4
 unfold ref06_Start at h0
 refine cQ (cR [0] ?_)
 refine oC (jA (d := 0) (T := 23) (q8c q8z) (by kernel_rfl) ty23 hI (by kernel_rfl) ?_)
 intro b1 w hI
 refine oD (qT (cQ (cR [0, 1] ?_)))
 obtain ⟨y3, hc2, h0⟩ := bindS h0
 try dsimp only at h0
 refine oC (jC (d := some 1) (n := 86) (vs := [.string (⟨#[99, 101, 110, 111, 116, 97, 112, 104]⟩ : ByteArray)]) (by kernel_rfl) en86 (c86 w0 w _ _ hI hT (⟨#[99, 101, 110, 111, 116, 97, 112, 104]⟩ : ByteArray) _ hc2) ?_)
 rintro e w ⟨rfl, hl4, hI⟩
 refine ⟨_, rfl, ?_⟩
 refine oC (jV (T := 23) (b := b1) (n := 32) (xs := q8z) (ys := y3) (by kernel_rfl) ty23 hI (fun _ => rfl) (by kernel_rfl) hl4 ?_)
 intro w hI
 refine oD (qT (jE ?_))
 have hL5 := (ldBN ty23 (l := cA (Value.int .u8) y3) (o := 0) (cs := cA (Value.int .u8) y3) (ent_refl _) ((cA_length _ _).trans hl4) (whole _ _ ((cA_length _ _).trans hl4))) w hI
 have hI := hI.drop
 have e := someS h0
 subst e
 refine qK [0] (S' := [(0, pb b1)]) ?_
 exact post_ret (v := .agg (q8c y3).toArray) (fun a ha => jU (vs := [.agg (q8c y3).toArray]) (.cell (t := 0) (T := 23) (ad := ⟨b1, 0, none⟩) (by kernel_rfl) hL5 .nil) ha (by kernel_rfl)) ⟨rfl, hl4, hI⟩
/-- cenotaph/cenotaphref02.Link -/
theorem c87 (w0 w : World) (Z : Hp) (A : HP) (hI : Inv w0 Z w A) (hT : Tabs Z) (a0 : (List Int)) (hl_a0 : a0.length = 32) (a1 : ByteArray) (r : (List Int)) (h0 : ref02_Link a0 a1 = some r) :
  Calls prog 87 #[.agg (q8c a0).toArray, .string a1] w (fun e w' => e = .returned (.agg (q8c r).toArray) ∧ r.length = 32 ∧ Inv w0 Z w' A) := by
 have e4 := calls_intro (R := (fun e w' => e = .returned (.agg (q8c r).toArray) ∧ r.length = 32 ∧ Inv w0 Z w' A)) (w := w) (args := [.agg (q8c a0).toArray, .string a1]) (fn := Go.Proofs.Tryz.f87) 10 Go.Proofs.Tryz.func87 (by rfl) Go.Proofs.Tryz.ntmps87 (by kernel_rfl)
 refine e4 ?_
 clear e4
 unfold ref02_Link at h0
 refine cQ (cR [0, 1] ?_)
 refine oC (Does.boxL (d := 2) (T := 23) (v := .agg (q8c a0).toArray) (q8c a0) (by kernel_rfl) hI (by kernel_rfl) ?_)
 intro b1 w hI
 refine oC (jA (d := 4) (T := 23) (q8c q8z) (by kernel_rfl) ty23 hI (by kernel_rfl) ?_)
 intro b2 w hI
 refine oD (qT (cQ (cR [0, 1, 2, 3, 4, 5] ?_)))
 refine oC (jY (jL (d := 5) (T := 23) (v := .agg (q8c a0).toArray) (by kernel_rfl) (ldBN ty23 (l := cA (Value.int .u8) a0) (o := 0) (cs := cA (Value.int .u8) a0) (pick2 _ _ _) ((cA_length _ _).trans hl_a0) (whole _ _ ((cA_length _ _).trans hl_a0)))) hI ?_)
 obtain ⟨y4, hc3, h0⟩ := bindS h0
 try dsimp only at h0
 refine oC (jC (d := some 6) (n := 53) (vs := [.agg (q8c a0).toArray]) (by kernel_rfl) en53 (c53 w0 w _ _ hI hT a0 hl_a0 _ hc3) ?_)
 rintro e w ⟨rfl, hI⟩
 refine ⟨_, rfl, ?_⟩
 refine oP (r := [3, 4, 5]) [2] (S' := [(4, pb b2), (6, .string y4), (7, .string a1)]) ?_
 obtain ⟨hg5, h0⟩ := guardS h0
 refine oC (jY (Yl.cat (d := 8) (T := 9) (x := y4) (y := a1) (by kernel_rfl) hg5) hI ?_)
 obtain ⟨y7, hc6, h0⟩ := bindS h0
 try dsimp only at h0
 refine oC (jC (d := some 9) (n := 86) (vs := [.string (y4 ++ a1)]) (by kernel_rfl) en86 (c86 w0 w _ _ hI hT (y4 ++ a1) _ hc6) ?_)
 rintro e w ⟨rfl, hl8, hI⟩
 refine ⟨_, rfl, ?_⟩
 refine oC (jV (T := 23) (b := b2) (n := 32) (xs := q8z) (ys := y7) (by kernel_rfl) ty23 hI (fun _ => rfl) (by kernel_rfl) hl8 ?_)
 intro w hI
 refine oD (qT (jE ?_))
 have hL9 := (ldBN ty23 (l := cA (Value.int .u8) y7) (o := 0) (cs := cA (Value.int .u8) y7) (ent_refl _) ((cA_length _ _).trans hl8) (whole _ _ ((cA_length _ _).trans hl8))) w hI
 have hI := hI.drop
 have hI := hI.drop
 have e := someS h0
 subst e
 refine qK [4] (S' := [(4, pb b2)]) ?_
 exact post_ret (v := .agg (q8c y7).toArray) (fun a ha => jU (vs := [.agg (q8c y7).toArray]) (.cell (t := 4) (T := 23) (ad := ⟨b2, 0, none⟩) (by kernel_rfl) hL9 .nil) ha (by kernel_rfl)) ⟨rfl, hl8, hI⟩
/-- cenotaph/cenotaphref06.Next -/
theorem c67 (w0 w : World) (Z : Hp) (A : HP) (hI : Inv w0 Z w A) (hT : Tabs Z) (a0 : (List Int)) (hl_a0 : a0.length = 32) (a1 : ApiEvent) (hl1 : a1.Sum.length = 32) (r : ((List Int) × Bool)) (h0 : ref06_Next a0 a1 = some r) :
  Calls prog 67 #[.agg (q8c a0).toArray, .agg (c_ApiEvent a1).toArray] w (fun e w' => e = .returned (.tuple #[.agg (q8c r.1).toArray, .bool r.2]) ∧ r.1.length = 32 ∧ Inv w0 Z w' A) := by
 have e4 := calls_intro (R := (fun e w' => e = .returned (.tuple #[.agg (q8c r.1).toArray, .bool r.2]) ∧ r.1.length = 32 ∧ Inv w0 Z w' A)) (w := w) (args := [.agg (q8c a0).toArray, .agg (c_ApiEvent a1).toArray]) (fn := Go.Proofs.Tryz.f67) 19 Go.Proofs.Tryz.func67 (by rfl) Go.Proofs.Tryz.ntmps67 (by kernel_rfl)
 refine e4 ?_
 clear e4
 unfold ref06_Next at h0
 refine cQ (cR [0, 1, 2, 3] ?_)
 refine oC (Does.boxL (d := 2) (T := 23) (v := .agg (q8c a0).toArray) (q8c a0) (by kernel_rfl) hI (by kernel_rfl) ?_)
 intro b2 w hI
 refine oC (Does.boxL (d := 3) (T := 50) (v := .agg (c_ApiEvent a1).toArray) (c_ApiEvent a1) (by kernel_rfl) hI (by kernel_rfl) ?_)
 intro b3 w hI
 refine oC (jA (d := 4) (T := 23) (q8c q8z) (by kernel_rfl) ty23 hI (by kernel_rfl) ?_)
 intro b4 w hI
 refine oP (r := []) [3] (S' := [(2, pb b2), (3, pb b3), (4, pb b4)]) ?_
 refine oD (qT (cQ (cR [0, 1, 2, 3, 4, 5, 6] ?_)))
 refine oC (jY (jL (d := 9) (T := 50) (v := .agg (c_ApiEvent a1).toArray) (by kernel_rfl) (ldBN ty50 (l := c_ApiEvent a1) (o := 0) (cs := c_ApiEvent a1) (pick2 _ _ _) (len_ApiEvent _ hl1) (whole _ _ (len_ApiEvent _ hl1)))) hI ?_)
 obtain ⟨⟨y6, y7⟩, hc5, h0⟩ := bindS h0
 try dsimp only at h0
 refine oC (jC (d := some 10) (n := 29) (vs := [.agg (c_ApiEvent a1).toArray]) (by kernel_rfl) en29 (c29 w0 w _ _ hI hT a1 hl1 _ hc5) ?_)
 rintro e w ⟨rfl, hI⟩
 refine ⟨_, rfl, ?_⟩
 refine oP (r := []) [2, 3, 4, 5, 6] (S' := [(2, pb b2), (4, pb b4), (6, .string y6), (7, .bool y7)]) ?_
 refine oD (qT (cQ (cQ (cR [0, 1] ?_))))
 refine oP (r := []) [0, 1] (S' := [(2, pb b2), (4, pb b4), (6, .string y6), (14, .bool (!y7))]) ?_
 refine oD (qT ?_)
 by_cases hb8 : (!y7) = true
 ·
  rw [if_pos hb8] at h0
  refine cY (b := !y7) hb8 ?_
  refine cQ (cR [0, 1, 2] ?_)
  refine oP (r := [1, 2]) [0] (S' := [(4, pb b4), (15, .agg (q8c ([0, 0, 0, 0, 0, 0, 0, 0, 0, 0, 0, 0, 0, 0, 0, 0, 0, 0, 0, 0, 0, 0, 0, 0, 0, 0, 0, 0, 0, 0, 0, 0] : List Int)).toArray)]) ?_
  refine oC (jV (T := 23) (b := b4) (n := 32) (xs := q8z) (ys := ([0, 0, 0, 0, 0, 0, 0, 0, 0, 0, 0, 0, 0, 0, 0, 0, 0, 0, 0, 0, 0, 0, 0, 0, 0, 0, 0, 0, 0, 0, 0, 0] : List Int)) (by kernel_rfl) ty23 hI (fun _ => rfl) (by kernel_rfl) (by kernel_rfl) ?_)
  intro w hI
  refine oP (r := []) [2] (S' := [(4, pb b4), (5, .bool false)]) ?_
  refine oD (qT (jE (jR ?_)))
  have hL9 := (ldBN ty23 (l := cA (Value.int .u8) ([0, 0, 0, 0, 0, 0, 0, 0, 0, 0, 0, 0, 0, 0, 0, 0, 0, 0, 0, 0, 0, 0, 0, 0, 0, 0, 0, 0, 0, 0, 0, 0] : List Int)) (o := 0) (cs := cA (Value.int .u8) ([0, 0, 0, 0, 0, 0, 0, 0, 0, 0, 0, 0, 0, 0, 0, 0, 0, 0, 0, 0, 0, 0, 0, 0, 0, 0, 0, 0, 0, 0, 0, 0] : List Int)) (ent_refl _) ((cA_length _ _).trans (by kernel_rfl)) (whole _ _ ((cA_length _ _).trans (by kernel_rfl)))) w hI
  have hI := hI.drop
  have hI := hI.drop
  have hI := hI.drop
  have e := someS h0
  subst e
  refine qK [4, 5] (S' := [(4, pb b4), (5, .bool false)]) ?_
  exact post_ret (v := .tuple #[.agg (q8c ([0, 0, 0, 0, 0, 0, 0, 0, 0, 0, 0, 0, 0, 0, 0, 0, 0, 0, 0, 0, 0, 0, 0, 0, 0, 0, 0, 0, 0, 0, 0, 0] : List Int)).toArray, .bool false]) (fun a ha => jU (vs := [.agg (q8c ([0, 0, 0, 0, 0, 0, 0, 0, 0, 0, 0, 0, 0, 0, 0, 0, 0, 0, 0, 0, 0, 0, 0, 0, 0, 0, 0, 0, 0, 0, 0, 0] : List Int)).toArray, .bool false]) (.cell (t := 4) (T := 23) (ad := ⟨b4, 0, none⟩) (by kernel_rfl) hL9 (.tmp (t := 5) (by kernel_rfl) .nil)) ha (by kernel_rfl)) ⟨rfl, (by kernel_rfl), hI⟩
 ·
  rw [if_neg hb8] at h0
  refine cN (b := !y7) (by simpa using hb8) ?_
  refine jS (qT (cQ (cR [0, 1, 2, 3, 4] ?_)))
  refine oC (jY (jL (d := 16) (T := 23) (v := .agg (q8c a0).toArray) (by kernel_rfl) (ldBN ty23 (l := cA (Value.int .u8) a0) (o := 0) (cs := cA (Value.int .u8) a0) (pick3 _ _ _ _) ((cA_length _ _).trans hl_a0) (whole _ _ ((cA_length _ _).trans hl_a0)))) hI ?_)
  refine oP (r := [2, 3, 4]) [1] (S' := [(4, pb b4), (16, .agg (q8c a0).toArray), (17, .string y6)]) ?_
  obtain ⟨y11, hc10, h0⟩ := bindS h0
  try dsimp only at h0
  refine oC (jC (d := some 18) (n := 87) (vs := [.agg (q8c a0).toArray, .string y6]) (by kernel_rfl) en87 (c87 w0 w _ _ hI hT a0 hl_a0 y6 _ hc10) ?_)
  rintro e w ⟨rfl, hl12, hI⟩
  refine ⟨_, rfl, ?_⟩
  refine oC (jV (T := 23) (b := b4) (n := 32) (xs := q8z) (ys := y11) (by kernel_rfl) ty23 hI (fun _ => rfl) (by kernel_rfl) hl12 ?_)
  intro w hI
  refine oP (r := []) [4] (S' := [(4, pb b4), (5, .bool true)]) ?_
  refine oD (qT (jE ?_))
  have hL13 := (ldBN ty23 (l := cA (Value.int .u8) y11) (o := 0) (cs := cA (Value.int .u8) y11) (ent_refl _) ((cA_length _ _).trans hl12) (whole _ _ ((cA_length _ _).trans hl12))) w hI
  have hI := hI.drop
  have hI := hI.drop
  have hI := hI.drop
  have e := someS h0
  subst e
  refine qK [4, 5] (S' := [(4, pb b4), (5, .bool true)]) ?_
  exact post_ret (v := .tuple #[.agg (q8c y11).toArray, .bool true]) (fun a ha => jU (vs := [.agg (q8c y11).toArray, .bool true]) (.cell (t := 4) (T := 23) (ad := ⟨b4, 0, none⟩) (by kernel_rfl) hL13 (.tmp (t := 5) (by kernel_rfl) .nil)) ha (by kernel_rfl)) ⟨rfl, hl12, hI⟩
/-- cenotaph/cenotaphref06.Heads -/
theorem c48 (w0 w : World) (Z : Hp) (A : HP) (hI : Inv w0 Z w A) (hT : Tabs Z) (A_a0 : Option Addr) (c_a0 : Nat) (a0 : (List ApiEvent)) (hr_a0 : RdS Z c_ApiEvent 37 A_a0 c_a0 a0) (r : (List (List Int))) (h0 : ref06_Heads a0 = some r) :
  Calls prog 48 #[.slice A_a0 a0.length c_a0] w (fun e w' => ∃ (A1 : Option Addr) (c1 : Nat), e = .returned (.slice A1 r.length c1) ∧ Inv w0 Z w' (star (ownS 23 (cA (Value.int .u8)) 32 A1 c1 r) A)) := by
 have e4 := calls_intro (R := (fun e w' => ∃ (A1 : Option Addr) (c1 : Nat), e = .returned (.slice A1 r.length c1) ∧ Inv w0 Z w' (star (ownS 23 (cA (Value.int .u8)) 32 A1 c1 r) A))) (w := w) (args := [.slice A_a0 a0.length c_a0]) (fn := Go.Proofs.Tryz.f48) 34 Go.Proofs.Tryz.func48 (by rfl) Go.Proofs.Tryz.ntmps48 (by kernel_rfl)
 refine e4 ?_
 clear e4
 unfold ref06_Heads at h0
 refine cQ (cR [0] ?_)
 refine oP (r := []) [0] (S' := [(0, .slice A_a0 a0.length c_a0)]) ?_
 refine oD (qT (cQ (cR [0, 1, 2] ?_)))
 obtain ⟨y2, hc1, h0⟩ := bindS h0
 try dsimp only at h0
 refine oC (jC (d := some 8) (n := 66) (vs := []) (by kernel_rfl) en66 (c66 w0 w _ _ hI hT _ hc1) ?_)
 rintro e w ⟨rfl, hl3, hI⟩
 refine ⟨_, rfl, ?_⟩
 refine oC (jA (d := 3) (T := 23) (q8c q8z) (by kernel_rfl) ty23 hI (by kernel_rfl) ?_)
 intro b4 w hI
 refine oC (jV (T := 23) (b := b4) (n := 32) (xs := q8z) (ys := y2) (by kernel_rfl) ty23 hI (fun _ => rfl) (by kernel_rfl) hl3 ?_)
 intro w hI
 refine oD (qT (cQ (cR [0, 1, 2] ?_)))
 refine oC (jY (jL (d := 9) (T := 23) (v := .agg (q8c y2).toArray) (by kernel_rfl) (ldBN ty23 (l := cA (Value.int .u8) y2) (o := 0) (cs := cA (Value.int .u8) y2) (ent_refl _) ((cA_length _ _).trans hl3) (whole _ _ ((cA_length _ _).trans hl3)))) hI ?_)
 refine oC (Does.buildSliceAll (en := (cA (Value.int .u8))) (d := 10) (n := 1) (T := 79) (ps := [(0, .agg (q8c y2).toArray)]) (fun y => .agg ((cA (Value.int .u8)) y).toArray) (fun _ => rfl) ([y2] : List (List Int)) (by kernel_rfl) rfl Go.Proofs.Tryz.underlying79 ty23 rfl (by kernel_rfl) (by kernel_rfl) (by decide +kernel) (List.forall_mem_cons.2 ⟨((cA_length _ _).trans hl3), (fun _ h => by cases h)⟩) hI ?_)
 intro b5 w hI
 refine oP (r := []) [2] (S' := [(0, .slice A_a0 a0.length c_a0), (3, pb b4), (4, .slice (some ⟨b5, 0, none⟩) (([y2] : List (List Int)).length) 1)]) ?_
 refine oD (qT (cQ (cQ (cR [0] ?_))))
 refine oP (r := []) [0] (S' := [(0, .slice A_a0 a0.length c_a0), (3, pb b4), (4, .slice (some ⟨b5, 0, none⟩) (([y2] : List (List Int)).length) 1), (5, iv 0)]) ?_
 refine oD (qT ?_)
 obtain ⟨r1, h1, h0⟩ := bindS h0
 refine CodT.meet1 (fun a w => ∃ (x6 : (List (List Int))) (A7 : Option Addr) (cp8 : Nat), .inr x6 = r1 ∧ Fr 34 [(4, .slice A7 x6.length cp8)] a ∧ Inv w0 Z w (star (ownS 23 (cA (Value.int .u8)) 32 A7 cp8 x6) A)) ?_ ?_
 ·
  refine jB ?_
  refine (fun a ha => wp_loopN (fun k a w => ∃ (x9 : (List (List Int))) (x12 : Int) (x13 : (List Int)) (A10 : Option Addr) (cp11 : Nat), ref06_Heads.l0 a0 k x9 x12 x13 = some r1 ∧ Fr 34 [(0, .slice A_a0 a0.length c_a0), (3, pb b4), (4, .slice A10 x9.length cp11), (5, iv x12)] a ∧ Inv w0 Z w (star (ownS 23 (cA (Value.int .u8)) 32 A10 cp11 x9) (star (pt b4 (.cells (q8c x13).toArray 23 (0, 0))) A)) ∧ x13.length = 32) ?_ FU a w ⟨([y2] : List (List Int)), 0, y2, (some ⟨b5, 0, none⟩), 1, h1, ha.keep [0, 3, 4, 5] (by kernel_rfl), hI, hl3⟩)
  clear h1 hI
  rintro k a w ⟨x9, x12, x13, A10, cp11, h1, ha, hI, hl14⟩
  rcases k with _ | k
  ·
   cases h1
  simp only [ref06_Heads.l0] at h1
  refine CodT.of ?_ ha
  refine cQ (cQ (cR [0, 1, 2, 3] ?_))
  refine oP (r := []) [0, 1, 2, 3] (S' := [(0, .slice A_a0 a0.length c_a0), (3, pb b4), (4, .slice A10 x9.length cp11), (5, iv x12), (14, .bool (decide (x12 < (a0.length : Int))))]) ?_
  refine oD (qT ?_)
  by_cases hb15 : (decide (x12 < (a0.length : Int))) = true
  ·
   rw [if_pos hb15] at h1
   refine cY (b := decide (x12 < (a0.length : Int))) hb15 ?_
   refine jS (qT (cQ (jB ?_)))
   obtain ⟨r2, h2, h1⟩ := bindS h1
   refine jM (fun a w => ∃ (x17 : (List Int)) (x19 : Bool) (b16 : Nat), (x17, x19) = r2 ∧ Fr 34 [(0, .slice A_a0 a0.length c_a0), (3, pb b4), (4, .slice A10 x9.length cp11), (5, iv x12), (6, pb b16), (7, .bool x19)] a ∧ Inv w0 Z w (star (pt b16 (.cells (q8c x17).toArray 23 (0, 0))) (star (pt b4 (.cells (q8c x13).toArray 23 (0, 0))) (star (ownS 23 (cA (Value.int .u8)) 32 A10 cp11 x9) A))) ∧ x17.length = 32) ?_ ?_
   ·
    refine CodT.drawI (n := 12) [10] (by kernel_rfl) (by kernel_rfl) hI ?_
    intro w hI
    refine gP 1 19 (.slice A_a0 a0.length c_a0) ?_
    refine gP 2 20 (iv x12) ?_
    refine gR (i := 0) 2 (jL (d := 18) (T := 23) (v := .agg (q8c x13).toArray) (by kernel_rfl) (ldBN ty23 (l := cA (Value.int .u8) x13) (o := 0) (cs := cA (Value.int .u8) x13) (pick2 _ _ _) ((cA_length _ _).trans hl14) (whole _ _ ((cA_length _ _).trans hl14)))) hI ?_
    obtain ⟨hg20, h2⟩ := guardS h2
    obtain ⟨g21, o25, hA22, hr23, hl24⟩ := RdS.get hr_a0 hg20.1 hg20.2
    refine gR (i := 3) 2 (Yl.indexSlice (d := 21) (T := 24) (cc := c_a0) (k := .i64) (j := x12) (g := g21) (o := o25) (by kernel_rfl) Go.Proofs.Tryz.underlying24 ty50 hA22 hg20.1 hg20.2) hI ?_
    refine gR (i := 4) 2 (jL (d := 22) (T := 50) (v := .agg (c_ApiEvent (gt a0 x12)).toArray) (by kernel_rfl) (ldRN ty50 (cs := c_ApiEvent (gt a0 x12)) 0 (fun w hC => hr23 w0 w _ hC) hl24 (whole _ _ hl24))) hI ?_
    refine GmT.several [5, 9] (by kernel_rfl) rfl ?_
    intro i hi; simp only [List.mem_cons, List.not_mem_nil, or_false] at hi; rcases hi with rfl | rfl
    ·
     obtain ⟨⟨y27, y29⟩, hc26, h2⟩ := bindS h2
     try dsimp only at h2
     rw [lst_set]
     refine (jC (d := some 23) (n := 67) (vs := [.agg (q8c x13).toArray, .agg (c_ApiEvent (gt a0 x12)).toArray]) (by kernel_rfl) en67 (c67 w0 w _ _ hI hT x13 hl14 (gt a0 x12) (inv_ApiEvent _ hl24) _ hc26) ?_)
     rintro e w ⟨rfl, hl28, hI⟩
     refine ⟨_, rfl, ?_⟩
     refine ⟨fun _ _ => hI, ?_⟩
     refine gP 6 17 (.tuple #[.agg (q8c y27).toArray, .bool y29]) ?_
     refine gP 7 24 (.agg (q8c y27).toArray) ?_
     refine gP 8 25 (.bool y29) ?_
     refine jO (i := 9) (by kernel_rfl) (jA (d := 6) (T := 23) (q8c q8z) (by kernel_rfl) ty23 hI (by kernel_rfl) ?_)
     intro b30 w hI
     have hC := hI
     have hC := hC.drop
     refine ⟨fun _ _ => hC, ?_⟩
     refine jO (i := 10) (by kernel_rfl) (jV (T := 23) (b := b30) (n := 32) (xs := q8z) (ys := y27) (by kernel_rfl) ty23 hI (fun _ => rfl) (by kernel_rfl) hl28 ?_)
     intro w hI
     refine ⟨fun h => absurd h (by decide), ?_⟩
     refine gP 11 7 (.bool y29) ?_
     refine jD (by kernel_rfl) ?_
     have hI := hI.mono (pick2 _ _ _)
     have hI := hI.mono (pick3 _ _ _ _)
     have hI := hI.mono (pick3 _ _ _ _)
     have e := someS h2
     subst e
     exact jT fun a ha => ⟨y27, y29, b30, rfl, ha.keep [0, 3, 4, 5, 6, 7] (by kernel_rfl), hI, hl28⟩
    ·
     rw [lst_set]
     refine (jA (d := 6) (T := 23) (q8c q8z) (by kernel_rfl) ty23 hI (by kernel_rfl) ?_)
     intro b31 w hI
     have hC := hI
     have hC := hC.drop
     refine ⟨fun _ _ => hC, ?_⟩
     obtain ⟨⟨y33, y35⟩, hc32, h2⟩ := bindS h2
     try dsimp only at h2
     refine jO (i := 5) (by kernel_rfl) (jC (d := some 23) (n := 67) (vs := [.agg (q8c x13).toArray, .agg (c_ApiEvent (gt a0 x12)).toArray]) (by kernel_rfl) en67 (c67 w0 w _ _ hI hT x13 hl14 (gt a0 x12) (inv_ApiEvent _ hl24) _ hc32) ?_)
     rintro e w ⟨rfl, hl34, hI⟩
     refine ⟨_, rfl, ?_⟩
     have hC := hI
     have hC := hC.drop
     refine ⟨fun _ _ => hC, ?_⟩
     refine gP 6 17 (.tuple #[.agg (q8c y33).toArray, .bool y35]) ?_
     refine gP 7 24 (.agg (q8c y33).toArray) ?_
     refine gP 8 25 (.bool y35) ?_
     refine jO (i := 10) (by kernel_rfl) (jV (T := 23) (b := b31) (n := 32) (xs := q8z) (ys := y33) (by kernel_rfl) ty23 hI (fun _ => rfl) (by kernel_rfl) hl34 ?_)
     intro w hI
     refine ⟨fun h => absurd h (by decide), ?_⟩
     refine gP 11 7 (.bool y35) ?_
     refine jD (by kernel_rfl) ?_
     have hI := hI.mono (pick2 _ _ _)
     have hI := hI.mono (pick3 _ _ _ _)
     have hI := hI.mono (pick3 _ _ _ _)
     have e := someS h2
     subst e
     exact jT fun a ha => ⟨y33, y35, b31, rfl, ha.keep [0, 3, 4, 5, 6, 7] (by kernel_rfl), hI, hl34⟩
   ·
    rintro a w ⟨x17, x19, b16, rfl, ha, hI, hl18⟩
    try dsimp only at h1
    refine CodT.of ?_ ha
    refine cQ (cQ (cR [0, 1] ?_))
    refine oP (r := []) [0, 1] (S' := [(0, .slice A_a0 a0.length c_a0), (3, pb b4), (4, .slice A10 x9.length cp11), (5, iv x12), (6, pb b16), (27, .bool (!x19))]) ?_
    refine oD (qT ?_)
    by_cases hb36 : (!x19) = true
    ·
     rw [if_pos hb36] at h1
     refine cY (b := !x19) hb36 ?_
     refine cQ (cR [0] ?_)
     refine oP (r := []) [0] (S' := [(2, .slice none 0 0)]) ?_
     refine oD (qT (jE (jR (jQ (jR (jR (jQ (jR (jR ?_)))))))))
     have hI := ownS_nil (α := (List Int)) hI 23 (cA (Value.int .u8)) 32
     have hI := hI.mono (pick2 _ _ _)
     have hI := hI.drop
     have hI := hI.mono (pick2 _ _ _)
     have hI := hI.drop
     have hI := hI.mono (pick2 _ _ _)
     have hI := hI.drop
     have e := someS h1
     subst e
     try dsimp only at h0
     have e := someS h0
     subst e
     refine qK [2] (S' := [(2, .slice none 0 0)]) ?_
     exact post_ret (v := .slice none 0 0) (fun a ha => jU (vs := [.slice none 0 0]) (.tmp (t := 2) (by kernel_rfl) .nil) ha (by kernel_rfl)) ⟨none, 0, rfl, hI⟩
    ·
     rw [if_neg hb36] at h1
     refine cN (b := !x19) (by simpa using hb36) ?_
     refine jS (qT (cQ (cR [0, 1] ?_)))
     refine oC (jY (jL (d := 28) (T := 23) (v := .agg (q8c x17).toArray) (by kernel_rfl) (ldBN ty23 (l := cA (Value.int .u8) x17) (o := 0) (cs := cA (Value.int .u8) x17) (ent_refl _) ((cA_length _ _).trans hl18) (whole _ _ ((cA_length _ _).trans hl18)))) hI ?_)
     have hI := hI.mono (pick2 _ _ _)
     refine oC (jV (T := 23) (b := b4) (n := 32) (xs := x13) (ys := x17) (by kernel_rfl) ty23 hI (fun _ => rfl) hl14 hl18 ?_)
     intro w hI
     refine oD (qT (cR [0, 1, 2, 3, 4] ?_))
     refine oP (r := [1, 2, 3, 4]) [0] (S' := [(0, .slice A_a0 a0.length c_a0), (3, pb b4), (5, iv x12), (29, .slice A10 x9.length cp11)]) ?_
     refine oC (jY (jL (d := 30) (T := 23) (v := .agg (q8c x17).toArray) (by kernel_rfl) (ldBN ty23 (l := cA (Value.int .u8) x17) (o := 0) (cs := cA (Value.int .u8) x17) (ent_refl _) ((cA_length _ _).trans hl18) (whole _ _ ((cA_length _ _).trans hl18)))) hI ?_)
     refine oC (Does.buildSliceAll (en := (cA (Value.int .u8))) (d := 31) (n := 1) (T := 79) (ps := [(0, .agg (q8c x17).toArray)]) (fun y => .agg ((cA (Value.int .u8)) y).toArray) (fun _ => rfl) ([x17] : List (List Int)) (by kernel_rfl) rfl Go.Proofs.Tryz.underlying79 ty23 rfl (by kernel_rfl) (by kernel_rfl) (by decide +kernel) (List.forall_mem_cons.2 ⟨((cA_length _ _).trans hl18), (fun _ h => by cases h)⟩) hI ?_)
     intro b37 w hI
     obtain ⟨hg38, h1⟩ := guardS h1
     have hI := hI.mono (pick4 _ _ _ _ _)
     refine oC (Does.append (d := 32) (t := 79) (tx := 79) (ty := 79) (ys := x9) (zs := ([x17] : List (List Int))) (x := .slice (some ⟨b37, 0, none⟩) (([x17] : List (List Int)).length) 1) (by kernel_rfl) Go.Proofs.Tryz.underlying79 ty23 (by kernel_rfl) hI (src_own Go.Proofs.Tryz.underlying79 (hI.mono (pick2 _ _ _)) (one_flat _ (fun u => ones_cA u))) (ownS_facts (hI.mono (pick2 _ _ _))).2.2 (by unfold LIM at hg38; omega) hg38 ?_)
     intro A39 cp40 w hI
     refine oP (r := []) [4] (S' := [(0, .slice A_a0 a0.length c_a0), (3, pb b4), (4, .slice A39 ((x9 ++ ([x17] : List (List Int))).length) cp40), (5, iv x12)]) ?_
     refine oD (jN (qT (cR [0, 1, 2] ?_)))
     refine oP (r := []) [0, 1, 2] (S' := [(0, .slice A_a0 a0.length c_a0), (3, pb b4), (4, .slice A39 ((x9 ++ ([x17] : List (List Int))).length) cp40), (5, iv (wi64 (x12 + 1)))]) ?_
     refine oD ?_
     have hI := hI.mono (pick2 _ _ _)
     have hI := hI.drop
     have hI := hI.mono (pick3 _ _ _ _)
     have hI := hI.drop
     exact jT fun a ha => ⟨k, Nat.lt_succ_self k, x9 ++ ([x17] : List (List Int)), wi64 (x12 + 1), x17, A39, cp40, h1, ha.keep [0, 3, 4, 5] (by kernel_rfl), hI, hl18⟩
  ·
   rw [if_neg hb15] at h1
   refine cN (b := decide (x12 < (a0.length : Int))) (by simpa using hb15) ?_
   refine jZ ?_
   refine jX (jX ?_)
   refine Qn.block ?_
   have hI := hI.mono (pick2 _ _ _)
   have hI := hI.drop
   have e := someS h1
   subst e
   exact jT fun a ha => ⟨x9, A10, cp11, rfl, ha.keep [4] (by kernel_rfl), hI⟩
 ·
  rintro a w ⟨x6, A7, cp8, rfl, ha, hI⟩
  try dsimp only at h0
  refine Qn.of ?_ ha
  refine qT (cQ (cR [0, 1] ?_))
  refine oP (r := []) [0, 1] (S' := [(2, .slice A7 x6.length cp8)]) ?_
  refine oD (qT (jE ?_))
  have e := someS h0
  subst e
  refine qK [2] (S' := [(2, .slice A7 x6.length cp8)]) ?_
  exact post_ret (v := .slice A7 x6.length cp8) (fun a ha => jU (vs := [.slice A7 x6.length cp8]) (.tmp (t := 2) (by kernel_rfl) .nil) ha (by kernel_rfl)) ⟨A7, cp8, rfl, hI⟩
end Go.Cen
